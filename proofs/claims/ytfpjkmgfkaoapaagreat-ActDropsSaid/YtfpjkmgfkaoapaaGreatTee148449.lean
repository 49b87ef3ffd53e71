import Derived.Test.YtfpjkmgfkaoapaaGreatTefe70e9c
namespace Go.Proofs.YtfpjkmgfkaoapaaGreat.VI
set_option linter.unusedVariables false
set_option linter.unusedSimpArgs false
set_option maxRecDepth 100000
set_option maxHeartbeats 8000000
theorem rfma_eq {a b c : Int} (ha : w32 a) (hb : w32 b) (hc : w32 c) : F_94d a b c = some (fma a b c) := by
  unfold F_94d; rw [fmar_eq 2 0 ha hb hc]; rfl
theorem tor_eq (f g mode : Int) {a : Int} (ha : w32 a) : F_925 f g mode a = some (toS f g mode a) := by
  have xa := xp_bd f a
  unfold F_925 toS
  rw [nans_eq f [a] (by simp) (by simpa using ha), nanr_w, infr_c f ha, negr_eq f ha, unpackr_eq f ha]
  simp only [Option.bind_some, List.any_cons, List.any_nil, Bool.or_false, infr_eq]
  rw [packr_eq g mode _ _ (sig_w64 f a), show min (max (xp f a) (-10000)) 10000 = xp f a by omega]
  cases nan f a <;> cases inff f a <;> rfl
theorem mulr_eq (f mode : Int) {a b : Int} (ha : w32 a) (hb : w32 b) : F_96d f mode a b = some (mulS f mode a b) := by
  have sm := sig_mul f a b
  have xa := xp_bd f a
  have xb := xp_bd f b
  have w1 : IntKind.i64.wrap (xp f a + xp f b) = xp f a + xp f b := wi64 (by omega)
  have w2 : IntKind.u64.wrap (sig f a * sig f b) = sig f a * sig f b := wu64 (by have := sm.1; omega)
  have hp := packr_eq f mode (!(sg f a == sg f b)) (xp f a + xp f b) sm.1 false
  rw [show min (max (xp f a + xp f b) (-10000)) 10000 = xp f a + xp f b by omega] at hp
  unfold F_96d mulS
  simp only [nans_eq f [a, b] (by simp) (by simpa using ⟨ha, hb⟩), zeror_eq f ha, zeror_eq f hb, infr_c f ha, infr_c f hb, negr_eq f ha, negr_eq f hb, nanr_w, infr_eq, unpackr_eq f ha, unpackr_eq f hb, Option.bind_some, List.any_cons, List.any_nil, Bool.or_false, w1, w2, hp]
  generalize pk f mode (!(sg f a == sg f b)) (xp f a + xp f b) (sig f a * sig f b) false = W
  rcases cls f a with ⟨a1, a3, a4⟩ | ⟨a1, a2, a3, a4⟩ | ⟨a1, a2, a3, a4⟩ | ⟨a1, a2, a3, a4⟩ <;> rcases cls f b with ⟨b1, b3, b4⟩ | ⟨b1, b2, b3, b4⟩ | ⟨b1, b2, b3, b4⟩ | ⟨b1, b2, b3, b4⟩ <;> simp only [a1, a3, a4, b1, b3, b4] <;> rfl
theorem zero_bits (f : Int) {a : Int} (ha : w32 a) (h : zr f a = true) : a % (2 * TT f) = sgn f (sg f a) := by
  have e : a % TT f = 0 := by unfold zr at h; simpa using h
  have s := sg_iff f a ha.1
  have b := mod_bd f a
  unfold sgn
  cases hs : sg f a
  · rw [hs] at s; simp at s ⊢; omega
  · have := s.1 hs; simp; omega
theorem addr_eq (f mode : Int) {a b : Int} (ha : w32 a) (hb : w32 b) : F_97c f mode a b = some (addS f mode a b) := by
  have xa := xp_bd f a
  have xb := xp_bd f b
  obtain ⟨L, K, hL, hK, lL, lK, ht⟩ := rsum_eq f mode (sg f a) (sg f b) (N := sig f a) (M := sig f b) (sig_48 f a) (sig_48 f b) (show -298 ≤ xp f a ∧ xp f a ≤ 260 by omega) (show -298 ≤ xp f b ∧ xp f b ≤ 260 by omega)
  have hst := sum_tot f mode (sg f a) (sg f b) (e := xp f a) (d := xp f b) (sig_48 f a).1 (sig_48 f b).1
  have hfin : nan f a = false → inff f a = false → nan f b = false → inff f b = false →
      sumS f mode (sg f a) (xp f a) (sig f a) (sg f b) (xp f b) (sig f b) = bif zr f a && (zr f b && (sg f a == sg f b)) then (sgn f (sg f a), EXC0, ()) else totS f mode (sv (sg f a) (sig f a * 2 ^ (xp f a + 298).toNat) + sv (sg f b) (sig f b * 2 ^ (xp f b + 298).toNat)) := by
    intro a1 a4 b1 b4
    rw [hst]
    have ea := sig_zero f a a1 a4
    have eb := sig_zero f b b1 b4
    by_cases h : sig f a = 0 ∧ sig f b = 0 ∧ sg f a = sg f b
    · rw [if_pos h, ea.1 h.1, eb.1 h.2.1, h.2.2]; simp
    · rw [if_neg h]
      have : (zr f a && (zr f b && (sg f a == sg f b))) = false := by
        apply Bool.eq_false_iff.2; intro k; apply h
        simp only [Bool.and_eq_true, beq_iff_eq] at k
        exact ⟨ea.2 k.1, eb.2 k.2.1, k.2.2⟩
      rw [this]; rfl
  have ia := inf_bits f ha
  have ib := inf_bits f hb
  have za := zero_bits f ha
  unfold F_97c addS
  simp only [nans_eq f [a, b] (by simp) (by simpa using ⟨ha, hb⟩), zeror_eq f ha, zeror_eq f hb, infr_c f ha, infr_c f hb, negr_eq f ha, negr_eq f hb, nanr_w, infr_eq, maskr_eq, unpackr_eq f ha, unpackr_eq f hb, Option.bind_some, List.any_cons, List.any_nil, Bool.or_false, hL, hK, len10 lL, len10 lK, ht, and_TT f ha.1 ha.2, and_TT f hb.1 hb.2]
  generalize totS f mode _ = W at *
  generalize sumS f mode _ _ _ _ _ _ = SW at *
  rcases cls f a with ⟨a1, a3, a4⟩ | ⟨a1, a2, a3, a4⟩ | ⟨a1, a2, a3, a4⟩ | ⟨a1, a2, a3, a4⟩ <;> rcases cls f b with ⟨b1, b3, b4⟩ | ⟨b1, b2, b3, b4⟩ | ⟨b1, b2, b3, b4⟩ | ⟨b1, b2, b3, b4⟩ <;> simp only [a1, a3, a4, b1, b3, b4, cond_true, cond_false, Bool.or_true, Bool.true_or, Bool.or_false, Bool.false_or, Bool.and_true, Bool.and_false, Bool.true_and, Bool.false_and, if_true, if_false, Bool.false_eq_true] at hfin ⊢
  all_goals first
    | rfl
    | (rw [ia a4]; done)
    | (rw [ib b4]; done)
    | (rw [ia a4]; rfl)
    | (rw [ib b4]; rfl)
    | (rw [hfin trivial trivial trivial trivial]; done)
    | (rw [ia a4]; cases sg f a <;> cases sg f b <;> rfl)
    | (rw [hfin trivial trivial trivial trivial, za a3]; cases (sg f a == sg f b) <;> rfl)
    | (rw [hfin trivial trivial trivial trivial]; rfl)
noncomputable def O_9a1 : Orc := (orm c_951 (orm c_985 c_986))
theorem okO_9a1 : OrcOk PR O_9a1 := (orm_ok ok_951 (orm_ok ok_985 ok_986))
abbrev fa_9a1 : Fm := (.pair (.i .i64) (.pair (.i .i64) (.pair (.i .u32) .unit)))
abbrev ha_9a1 : List BF := []
abbrev fr_9a1 : Fm := (.tup (.pair .b (.pair (.i .u64) (.pair .b .unit))))
abbrev hr_9a1 : List BF := []
noncomputable def L_9a1 : Lps := L0
def inn_9a1 : T fr_9a1 → TH hr_9a1 → Bool × Int × Bool × Unit := (fun z w => z)
def out_9a1 : Bool × Int × Bool × Unit → T fr_9a1 × TH hr_9a1 := fun r => (r, ())
noncomputable def F_9a1 (a0 : Int) (a1 : Int) (a2 : Int) : Option (Bool × Int × Bool × Unit) :=
 ((F_951 a0 a2)).bind fun r0 =>
 let x1 : Int := r0.2.2.1
 bif (decide (r0.2.1 ≥ (0:Int))) then
 bif (decide (r0.2.1 > (39:Int))) then
 bif (decide (x1 > (0:Int))) then
 (some (r0.1, ((4611686018427387904:Int), (false, ()))))
 else
 bif (decide ((0:Int) ≤ (mn r0.2.1 (39:Int)))) then
 (some (r0.1, ((IntKind.wrap .u64 (x1 * ((2:Int) ^ (Min.min (Int.toNat (mn r0.2.1 (39:Int))) (64:Nat))))), (false, ()))))
 else
 none
 else
 bif (decide ((0:Int) ≤ (mn r0.2.1 (39:Int)))) then
 (some (r0.1, ((IntKind.wrap .u64 (x1 * ((2:Int) ^ (Min.min (Int.toNat (mn r0.2.1 (39:Int))) (64:Nat))))), (false, ()))))
 else
 none
 else
 ((F_985 x1 (IntKind.wrap .i64 ((0:Int) - r0.2.1)))).bind fun r2 =>
 let x3 : Bool := r2.2.2.1
 ((F_986 a1 r0.1 ((bits .and .u64 r2.1 (1:Int)) == (1:Int)) r2.2.1 x3)).bind fun r4 =>
 let x5 : Int := (bif r4 then (IntKind.wrap .u64 (r2.1 + (1:Int))) else r2.1)
 bif r2.2.1 then
 (some (r0.1, (x5, (true, ()))))
 else
 (some (r0.1, (x5, r2.2.2)))
noncomputable def G_9a1 : T fa_9a1 → TH ha_9a1 → Option (Bool × Int × Bool × Unit) := fun x y => F_9a1 x.1 x.2.1 x.2.2.1
noncomputable def c_9a1 : Orc := ent i_9a1 [] 0 (sp fa_9a1 ha_9a1 fr_9a1 hr_9a1 G_9a1 out_9a1)
theorem ok_9a1 : OrcOk PR c_9a1 := fnT okO_9a1 mixed p_9a1 (by kernel_rfl) (by kernel_rfl) (L := L_9a1) (kp := false) (by kernel_rfl) (inn := inn_9a1) (out := out_9a1) (fun _ _ => rfl) (loopsL (l := []) (by kernel_rfl) trivial) (fun x y => by kernel_rfl)
noncomputable def O_97a : Orc := (orm c_923 c_9a1)
theorem okO_97a : OrcOk PR O_97a := (orm_ok ok_923 ok_9a1)
abbrev fa_97a : Fm := (.pair (.i .i64) (.pair (.i .i64) (.pair (.i .u32) .unit)))
abbrev ha_97a : List BF := []
abbrev fr_97a : Fm := (.tup (.pair (.i .i32) (.pair (.agg (.pair .b (.pair .b (.pair .b (.pair .b (.pair .b .unit)))))) .unit)))
abbrev hr_97a : List BF := []
noncomputable def L_97a : Lps := L0
def inn_97a : T fr_97a → TH hr_97a → Int × (Bool × Bool × Bool × Bool × Bool × Unit) × Unit := (fun z w => z)
def out_97a : Int × (Bool × Bool × Bool × Bool × Bool × Unit) × Unit → T fr_97a × TH hr_97a := fun r => (r, ())
noncomputable def F_97a (a0 : Int) (a1 : Int) (a2 : Int) : Option (Int × (Bool × Bool × Bool × Bool × Bool × Unit) × Unit) :=
 ((F_923 a0 a2)).bind fun r0 =>
 bif (!r0) then
 (some ((-(2147483648:Int)), ((true, (false, (false, (false, (false, ()))))), ())))
 else
 ((F_9a1 a0 a1 a2)).bind fun r1 =>
 bif (decide (r1.2.1 > (2147483648:Int))) then
 (some ((-(2147483648:Int)), ((true, (false, (false, (false, (false, ()))))), ())))
 else
 bif (r1.2.1 == (2147483648:Int)) then
 bif (!r1.1) then
 (some ((-(2147483648:Int)), ((true, (false, (false, (false, (false, ()))))), ())))
 else
 bif r1.1 then
 (some ((IntKind.wrap .i32 (IntKind.wrap .i64 ((0:Int) - (IntKind.wrap .i64 r1.2.1)))), ((false, (false, (false, (false, r1.2.2)))), ())))
 else
 (some ((IntKind.wrap .i32 r1.2.1), ((false, (false, (false, (false, r1.2.2)))), ())))
 else
 bif r1.1 then
 (some ((IntKind.wrap .i32 (IntKind.wrap .i64 ((0:Int) - (IntKind.wrap .i64 r1.2.1)))), ((false, (false, (false, (false, r1.2.2)))), ())))
 else
 (some ((IntKind.wrap .i32 r1.2.1), ((false, (false, (false, (false, r1.2.2)))), ())))
noncomputable def G_97a : T fa_97a → TH ha_97a → Option (Int × (Bool × Bool × Bool × Bool × Bool × Unit) × Unit) := fun x y => F_97a x.1 x.2.1 x.2.2.1
noncomputable def c_97a : Orc := ent i_97a [] 0 (sp fa_97a ha_97a fr_97a hr_97a G_97a out_97a)
theorem ok_97a : OrcOk PR c_97a := fnT okO_97a mixed p_97a (by kernel_rfl) (by kernel_rfl) (L := L_97a) (kp := false) (by kernel_rfl) (inn := inn_97a) (out := out_97a) (fun _ _ => rfl) (loopsL (l := []) (by kernel_rfl) trivial) (fun x y => by kernel_rfl)
noncomputable def O_969 : Orc := c_981
theorem okO_969 : OrcOk PR O_969 := ok_981
abbrev fa_969 : Fm := (.pair (.i .u32) .unit)
abbrev ha_969 : List BF := []
abbrev fr_969 : Fm := (.i .u32)
abbrev hr_969 : List BF := []
noncomputable def L_969 : Lps := L0
def inn_969 : T fr_969 → TH hr_969 → Int := (fun z w => z)
def out_969 : Int → T fr_969 × TH hr_969 := fun r => (r, ())
noncomputable def F_969 (a0 : Int) : Option (Int) :=
 ((F_981 (2:Int) a0)).bind fun r0 =>
 (some r0)
noncomputable def G_969 : T fa_969 → TH ha_969 → Option (Int) := fun x y => F_969 x.1
noncomputable def c_969 : Orc := ent i_969 [] 0 (sp fa_969 ha_969 fr_969 hr_969 G_969 out_969)
theorem ok_969 : OrcOk PR c_969 := fnT okO_969 mixed p_969 (by kernel_rfl) (by kernel_rfl) (L := L_969) (kp := false) (by kernel_rfl) (inn := inn_969) (out := out_969) (fun _ _ => rfl) (loopsL (l := []) (by kernel_rfl) trivial) (fun x y => by kernel_rfl)
noncomputable def O_935 : Orc := c_952
theorem okO_935 : OrcOk PR O_935 := ok_952
abbrev fa_935 : Fm := (.pair (.i .u32) .unit)
abbrev ha_935 : List BF := []
abbrev fr_935 : Fm := .b
abbrev hr_935 : List BF := []
noncomputable def L_935 : Lps := L0
def inn_935 : T fr_935 → TH hr_935 → Bool := (fun z w => z)
def out_935 : Bool → T fr_935 × TH hr_935 := fun r => (r, ())
noncomputable def F_935 (a0 : Int) : Option (Bool) :=
 ((F_952 (2:Int) a0)).bind fun r0 =>
 bif (r0 == (4:Int)) then
 (some true)
 else
 (some (r0 == (5:Int)))
noncomputable def G_935 : T fa_935 → TH ha_935 → Option (Bool) := fun x y => F_935 x.1
noncomputable def c_935 : Orc := ent i_935 [] 0 (sp fa_935 ha_935 fr_935 hr_935 G_935 out_935)
theorem ok_935 : OrcOk PR c_935 := fnT okO_935 mixed p_935 (by kernel_rfl) (by kernel_rfl) (L := L_935) (kp := false) (by kernel_rfl) (inn := inn_935) (out := out_935) (fun _ _ => rfl) (loopsL (l := []) (by kernel_rfl) trivial) (fun x y => by kernel_rfl)
noncomputable def O_953 : Orc := c_94d
theorem okO_953 : OrcOk PR O_953 := ok_94d
abbrev fa_953 : Fm := (.pair (.i .u32) (.pair (.i .u32) (.pair (.si .u32) .unit)))
abbrev ha_953 : List BF := []
abbrev fr_953 : Fm := (.i .u32)
abbrev hr_953 : List BF := []
abbrev ff_953_0 : Fm := (.pair (.i .u32) (.pair (.i .u32) (.pair (.si .u32) (.us 4 (.pair (.i .i64) (.us 14 .unit))))))
abbrev hf_953_0 : List BF := []
abbrev X_953_0 : Xs := (.one (.exit 0) [0] (.pair (.i .u32) (.us 21 .unit)) [])
abbrev S_953_0 : Type := T ff_953_0 × TH hf_953_0
abbrev E_953_0 : Type := TX X_953_0
noncomputable def LB_953_0 : Lps := L0
noncomputable def st_953_0 : StepT S_953_0 E_953_0 := fun R v kn ko =>
 let x0 : Int := v.1.1
 let x1 : Int := v.1.2.1
 let x2 : List Int := v.1.2.2.1
 let x3 : Int := v.1.2.2.2.1
 bif (decide (x3 < (((List.length x2) : Nat) : Int))) then
 bif (decide (((0:Int) ≤ x3) ∧ (x3 < (((List.length x2) : Nat) : Int)))) then
 ((F_94d x0 x1 (List.getD x2 (Int.toNat x3) (0:Int)))).bind fun r4 =>
 (kn ((r4, (x1, ((List.take (List.length x2) x2), ((IntKind.wrap .i64 (x3 + (1:Int))), ())))), ()))
 else
 none
 else
 (ko ((x0, ()), ()))
noncomputable def ls_953_0 : St → LTr := (lsum ff_953_0 hf_953_0 X_953_0 Prod.mk id st_953_0 (hd [] [] [0, 1, 2, 7] 0))
theorem lp_953_0 : LoopOk PR 0 (lpN f_953 0) ls_953_0 := loopT okO_953 mixed (L := LB_953_0) (d := 1) (bs := []) (ks := [0, 1, 2, 7]) (loopsL (l := []) (by kernel_rfl) trivial) (by kernel_rfl) (inS := Prod.mk) (outS := id) (fun _ _ => rfl) (inX := id) (outX := id) (fun _ => rfl) (fun v R kn ko => by kernel_rfl) (hd_wk [] [] [0, 1, 2, 7] 0)
noncomputable def L_953 : Lps := (lpB 3 (.by_ ls_953_0) L0)
def inn_953 : T fr_953 → TH hr_953 → Int := (fun z w => z)
def out_953 : Int → T fr_953 × TH hr_953 := fun r => (r, ())
noncomputable def F_953 (a0 : Int) (a1 : Int) (a2 : List Int) : Option (Int) :=
 ((lim st_953_0 ((a0, (a1, ((List.take (List.length a2) a2), ((0:Int), ())))), ()))).bind fun r0 =>
 (some r0.1.1)
noncomputable def G_953 : T fa_953 → TH ha_953 → Option (Int) := fun x y => F_953 x.1 x.2.1 x.2.2.1
noncomputable def c_953 : Orc := ent i_953 [] 0 (sp fa_953 ha_953 fr_953 hr_953 G_953 out_953)
theorem ok_953 : OrcOk PR c_953 := fnT okO_953 mixed p_953 (by kernel_rfl) (by kernel_rfl) (L := L_953) (kp := false) (by kernel_rfl) (inn := inn_953) (out := out_953) (fun _ _ => rfl) (loopsL (l := [((lpN f_953 0), ls_953_0)]) (by kernel_rfl) ⟨lp_953_0, trivial⟩) (fun x y => by kernel_rfl)
noncomputable def O_9a2 : Orc := (orm c_954 (orm c_936 (orm c_923 (orm c_933 (orm c_951 c_958)))))
theorem okO_9a2 : OrcOk PR O_9a2 := (orm_ok ok_954 (orm_ok ok_936 (orm_ok ok_923 (orm_ok ok_933 (orm_ok ok_951 ok_958)))))
abbrev fa_9a2 : Fm := (.pair (.i .i64) (.pair (.i .i64) (.pair (.i .u32) (.pair (.i .i64) .unit))))
abbrev ha_9a2 : List BF := []
abbrev fr_9a2 : Fm := (.tup (.pair (.i .u32) (.pair (.agg (.pair .b (.pair .b (.pair .b (.pair .b (.pair .b .unit)))))) .unit)))
abbrev hr_9a2 : List BF := []
noncomputable def L_9a2 : Lps := L0
def inn_9a2 : T fr_9a2 → TH hr_9a2 → Int × (Bool × Bool × Bool × Bool × Bool × Unit) × Unit := (fun z w => z)
def out_9a2 : Int × (Bool × Bool × Bool × Bool × Bool × Unit) × Unit → T fr_9a2 × TH hr_9a2 := fun r => (r, ())
noncomputable def F_9a2 (a0 : Int) (a1 : Int) (a2 : Int) (a3 : Int) : Option (Int × (Bool × Bool × Bool × Bool × Bool × Unit) × Unit) :=
 ((F_954 a0 [a2])).bind fun r0 =>
 bif r0.1 then
 ((F_936 a0)).bind fun r1 =>
 (some (r1, ((r0.2.1, (false, (false, (false, (false, ()))))), ())))
 else
 ((F_923 a0 a2)).bind fun r2 =>
 bif (!r2) then
 ((F_933 a0)).bind fun r3 =>
 (some ((bits .and .u32 a2 r3), ((false, (false, (false, (false, (false, ()))))), ())))
 else
 ((F_951 a0 a2)).bind fun r4 =>
 let x5 : Int := r4.2.2.1
 ((F_958 a0 a1 r4.1 (IntKind.wrap .i64 (r4.2.1 + (mn (mx a3 (-(5000:Int))) (5000:Int)))) x5 false)).bind fun r6 =>
 (some r6)
noncomputable def G_9a2 : T fa_9a2 → TH ha_9a2 → Option (Int × (Bool × Bool × Bool × Bool × Bool × Unit) × Unit) := fun x y => F_9a2 x.1 x.2.1 x.2.2.1 x.2.2.2.1
noncomputable def c_9a2 : Orc := ent i_9a2 [] 0 (sp fa_9a2 ha_9a2 fr_9a2 hr_9a2 G_9a2 out_9a2)
theorem ok_9a2 : OrcOk PR c_9a2 := fnT okO_9a2 mixed p_9a2 (by kernel_rfl) (by kernel_rfl) (L := L_9a2) (kp := false) (by kernel_rfl) (inn := inn_9a2) (out := out_9a2) (fun _ _ => rfl) (loopsL (l := []) (by kernel_rfl) trivial) (fun x y => by kernel_rfl)
noncomputable def O_97b : Orc := c_9a2
theorem okO_97b : OrcOk PR O_97b := ok_9a2
abbrev fa_97b : Fm := (.pair (.i .u32) (.pair (.i .i64) .unit))
abbrev ha_97b : List BF := []
abbrev fr_97b : Fm := (.i .u32)
abbrev hr_97b : List BF := []
noncomputable def L_97b : Lps := L0
def inn_97b : T fr_97b → TH hr_97b → Int := (fun z w => z)
def out_97b : Int → T fr_97b × TH hr_97b := fun r => (r, ())
noncomputable def F_97b (a0 : Int) (a1 : Int) : Option (Int) :=
 ((F_9a2 (2:Int) (0:Int) a0 a1)).bind fun r0 =>
 (some r0.1)
noncomputable def G_97b : T fa_97b → TH ha_97b → Option (Int) := fun x y => F_97b x.1 x.2.1
noncomputable def c_97b : Orc := ent i_97b [] 0 (sp fa_97b ha_97b fr_97b hr_97b G_97b out_97b)
theorem ok_97b : OrcOk PR c_97b := fnT okO_97b mixed p_97b (by kernel_rfl) (by kernel_rfl) (L := L_97b) (kp := false) (by kernel_rfl) (inn := inn_97b) (out := out_97b) (fun _ _ => rfl) (loopsL (l := []) (by kernel_rfl) trivial) (fun x y => by kernel_rfl)
noncomputable def O_94a : Orc := (orm c_935 (orm c_91f (orm c_93c (orm c_97a (orm c_921 (orm c_969 (orm c_94d (orm c_953 c_97b))))))))
theorem okO_94a : OrcOk PR O_94a := (orm_ok ok_935 (orm_ok ok_91f (orm_ok ok_93c (orm_ok ok_97a (orm_ok ok_921 (orm_ok ok_969 (orm_ok ok_94d (orm_ok ok_953 ok_97b))))))))
abbrev fa_94a : Fm := (.pair (.i .u32) .unit)
abbrev ha_94a : List BF := []
abbrev fr_94a : Fm := (.i .u32)
abbrev hr_94a : List BF := []
noncomputable def L_94a : Lps := L0
def inn_94a : T fr_94a → TH hr_94a → Int := (fun z w => z)
def out_94a : Int → T fr_94a × TH hr_94a := fun r => (r, ())
noncomputable def F_94a (a0 : Int) : Option (Int) :=
 ((F_935 a0)).bind fun r0 =>
 bif r0 then
 (some (2143289344:Int))
 else
 ((F_91f a0 (1118925336:Int))).bind fun r1 =>
 bif r1 then
 (some (2139095040:Int))
 else
 ((F_91f (3268407733:Int) a0)).bind fun r2 =>
 bif r2 then
 (some (0:Int))
 else
 ((F_93c a0 (1069066811:Int))).bind fun r3 =>
 ((F_97a (2:Int) (0:Int) r3)).bind fun r4 =>
 let x5 : Int := (IntKind.wrap .i64 r4.1)
 ((F_921 x5)).bind fun r6 =>
 ((F_969 r6)).bind fun r7 =>
 ((F_94d r7 (1060205056:Int) a0)).bind fun r8 =>
 ((F_94d r7 (901758606:Int) r8)).bind fun r9 =>
 ((F_953 (985008993:Int) r9 [(1007192201:Int), (1026206379:Int), (1042983595:Int), (1056964608:Int), (1065353216:Int), (1065353216:Int)])).bind fun r10 =>
 ((F_97b r10 x5)).bind fun r11 =>
 (some r11)
noncomputable def G_94a : T fa_94a → TH ha_94a → Option (Int) := fun x y => F_94a x.1
noncomputable def c_94a : Orc := ent i_94a [] 0 (sp fa_94a ha_94a fr_94a hr_94a G_94a out_94a)
theorem ok_94a : OrcOk PR c_94a := fnT okO_94a mixed p_94a (by kernel_rfl) (by kernel_rfl) (L := L_94a) (kp := false) (by kernel_rfl) (inn := inn_94a) (out := out_94a) (fun _ _ => rfl) (loopsL (l := []) (by kernel_rfl) trivial) (fun x y => by kernel_rfl)
noncomputable def O_950 : Orc := (orm c_981 c_97c)
theorem okO_950 : OrcOk PR O_950 := (orm_ok ok_981 ok_97c)
abbrev fa_950 : Fm := (.pair (.i .i64) (.pair (.i .i64) (.pair (.i .u32) (.pair (.i .u32) .unit))))
abbrev ha_950 : List BF := []
abbrev fr_950 : Fm := (.tup (.pair (.i .u32) (.pair (.agg (.pair .b (.pair .b (.pair .b (.pair .b (.pair .b .unit)))))) .unit)))
abbrev hr_950 : List BF := []
noncomputable def L_950 : Lps := L0
def inn_950 : T fr_950 → TH hr_950 → Int × (Bool × Bool × Bool × Bool × Bool × Unit) × Unit := (fun z w => z)
def out_950 : Int × (Bool × Bool × Bool × Bool × Bool × Unit) × Unit → T fr_950 × TH hr_950 := fun r => (r, ())
noncomputable def F_950 (a0 : Int) (a1 : Int) (a2 : Int) (a3 : Int) : Option (Int × (Bool × Bool × Bool × Bool × Bool × Unit) × Unit) :=
 ((F_981 a0 a3)).bind fun r0 =>
 ((F_97c a0 a1 a2 r0)).bind fun r1 =>
 (some r1)
noncomputable def G_950 : T fa_950 → TH ha_950 → Option (Int × (Bool × Bool × Bool × Bool × Bool × Unit) × Unit) := fun x y => F_950 x.1 x.2.1 x.2.2.1 x.2.2.2.1
noncomputable def c_950 : Orc := ent i_950 [] 0 (sp fa_950 ha_950 fr_950 hr_950 G_950 out_950)
theorem ok_950 : OrcOk PR c_950 := fnT okO_950 mixed p_950 (by kernel_rfl) (by kernel_rfl) (L := L_950) (kp := false) (by kernel_rfl) (inn := inn_950) (out := out_950) (fun _ _ => rfl) (loopsL (l := []) (by kernel_rfl) trivial) (fun x y => by kernel_rfl)
noncomputable def O_922 : Orc := c_950
theorem okO_922 : OrcOk PR O_922 := ok_950
abbrev fa_922 : Fm := (.pair (.i .u32) (.pair (.i .u32) .unit))
abbrev ha_922 : List BF := []
abbrev fr_922 : Fm := (.i .u32)
abbrev hr_922 : List BF := []
noncomputable def L_922 : Lps := L0
def inn_922 : T fr_922 → TH hr_922 → Int := (fun z w => z)
def out_922 : Int → T fr_922 × TH hr_922 := fun r => (r, ())
noncomputable def F_922 (a0 : Int) (a1 : Int) : Option (Int) :=
 ((F_950 (2:Int) (0:Int) a0 a1)).bind fun r0 =>
 (some r0.1)
noncomputable def G_922 : T fa_922 → TH ha_922 → Option (Int) := fun x y => F_922 x.1 x.2.1
noncomputable def c_922 : Orc := ent i_922 [] 0 (sp fa_922 ha_922 fr_922 hr_922 G_922 out_922)
theorem ok_922 : OrcOk PR c_922 := fnT okO_922 mixed p_922 (by kernel_rfl) (by kernel_rfl) (L := L_922) (kp := false) (by kernel_rfl) (inn := inn_922) (out := out_922) (fun _ _ => rfl) (loopsL (l := []) (by kernel_rfl) trivial) (fun x y => by kernel_rfl)
noncomputable def O_937 : Orc := (orm c_935 (orm c_91f (orm c_94b (orm c_94a (orm c_920 (orm c_922 c_969))))))
theorem okO_937 : OrcOk PR O_937 := (orm_ok ok_935 (orm_ok ok_91f (orm_ok ok_94b (orm_ok ok_94a (orm_ok ok_920 (orm_ok ok_922 ok_969))))))
abbrev fa_937 : Fm := (.pair (.i .u32) .unit)
abbrev ha_937 : List BF := []
abbrev fr_937 : Fm := (.i .u32)
abbrev hr_937 : List BF := []
noncomputable def L_937 : Lps := L0
def inn_937 : T fr_937 → TH hr_937 → Int := (fun z w => z)
def out_937 : Int → T fr_937 × TH hr_937 := fun r => (r, ())
noncomputable def F_937 (a0 : Int) : Option (Int) :=
 let x0 : Int := (bits .andNot .u32 a0 (2147483648:Int))
 let x1 : Bool := ((a0 / (2147483648:Int)) == (1:Int))
 ((F_935 a0)).bind fun r2 =>
 bif r2 then
 (some (2143289344:Int))
 else
 bif (x0 == (0:Int)) then
 (some a0)
 else
 ((F_91f x0 (1091579060:Int))).bind fun r3 =>
 bif (!r3) then
 ((F_94b x0 x0)).bind fun r4 =>
 ((F_94a r4)).bind fun r5 =>
 ((F_94b r5 (1065353216:Int))).bind fun r6 =>
 ((F_920 (1073741824:Int) r6)).bind fun r7 =>
 ((F_922 (1065353216:Int) r7)).bind fun r8 =>
 bif x1 then
 ((F_969 r8)).bind fun r9 =>
 (some r9)
 else
 (some r8)
 else
 bif x1 then
 ((F_969 (1065353216:Int))).bind fun r10 =>
 (some r10)
 else
 (some (1065353216:Int))
noncomputable def G_937 : T fa_937 → TH ha_937 → Option (Int) := fun x y => F_937 x.1
noncomputable def c_937 : Orc := ent i_937 [] 0 (sp fa_937 ha_937 fr_937 hr_937 G_937 out_937)
theorem ok_937 : OrcOk PR c_937 := fnT okO_937 mixed p_937 (by kernel_rfl) (by kernel_rfl) (L := L_937) (kp := false) (by kernel_rfl) (inn := inn_937) (out := out_937) (fun _ _ => rfl) (loopsL (l := []) (by kernel_rfl) trivial) (fun x y => by kernel_rfl)
noncomputable def O_96a : Orc := (orm c_93c c_94d)
theorem okO_96a : OrcOk PR O_96a := (orm_ok ok_93c ok_94d)
abbrev fa_96a : Fm := (.pair (.i .u32) .unit)
abbrev ha_96a : List BF := []
abbrev fr_96a : Fm := (.i .u32)
abbrev hr_96a : List BF := []
noncomputable def L_96a : Lps := L0
def inn_96a : T fr_96a → TH hr_96a → Int := (fun z w => z)
def out_96a : Int → T fr_96a × TH hr_96a := fun r => (r, ())
noncomputable def F_96a (a0 : Int) : Option (Int) :=
 ((F_93c a0 a0)).bind fun r0 =>
 ((F_93c r0 a0)).bind fun r1 =>
 ((F_94d (1027024659:Int) r1 a0)).bind fun r2 =>
 ((F_93c (1061962282:Int) r2)).bind fun r3 =>
 (some r3)
noncomputable def G_96a : T fa_96a → TH ha_96a → Option (Int) := fun x y => F_96a x.1
noncomputable def c_96a : Orc := ent i_96a [] 0 (sp fa_96a ha_96a fr_96a hr_96a G_96a out_96a)
theorem ok_96a : OrcOk PR c_96a := fnT okO_96a mixed p_96a (by kernel_rfl) (by kernel_rfl) (L := L_96a) (kp := false) (by kernel_rfl) (inn := inn_96a) (out := out_96a) (fun _ _ => rfl) (loopsL (l := []) (by kernel_rfl) trivial) (fun x y => by kernel_rfl)
noncomputable def O_938 : Orc := (orm c_935 (orm c_93c (orm c_96a (orm c_937 c_94b))))
theorem okO_938 : OrcOk PR O_938 := (orm_ok ok_935 (orm_ok ok_93c (orm_ok ok_96a (orm_ok ok_937 ok_94b))))
abbrev fa_938 : Fm := (.pair (.i .u32) .unit)
abbrev ha_938 : List BF := []
abbrev fr_938 : Fm := (.i .u32)
abbrev hr_938 : List BF := []
noncomputable def L_938 : Lps := L0
def inn_938 : T fr_938 → TH hr_938 → Int := (fun z w => z)
def out_938 : Int → T fr_938 × TH hr_938 := fun r => (r, ())
noncomputable def F_938 (a0 : Int) : Option (Int) :=
 ((F_935 a0)).bind fun r0 =>
 bif r0 then
 (some (2143289344:Int))
 else
 ((F_93c (1056964608:Int) a0)).bind fun r1 =>
 ((F_96a a0)).bind fun r2 =>
 ((F_937 r2)).bind fun r3 =>
 ((F_94b (1065353216:Int) r3)).bind fun r4 =>
 ((F_93c r1 r4)).bind fun r5 =>
 (some r5)
noncomputable def G_938 : T fa_938 → TH ha_938 → Option (Int) := fun x y => F_938 x.1
noncomputable def c_938 : Orc := ent i_938 [] 0 (sp fa_938 ha_938 fr_938 hr_938 G_938 out_938)
theorem ok_938 : OrcOk PR c_938 := fnT okO_938 mixed p_938 (by kernel_rfl) (by kernel_rfl) (L := L_938) (kp := false) (by kernel_rfl) (inn := inn_938) (out := out_938) (fun _ _ => rfl) (loopsL (l := []) (by kernel_rfl) trivial) (fun x y => by kernel_rfl)
noncomputable def O_93d : Orc := (orm c_935 (orm c_96a (orm c_937 (orm c_93c (orm c_94d (orm c_922 c_94b))))))
theorem okO_93d : OrcOk PR O_93d := (orm_ok ok_935 (orm_ok ok_96a (orm_ok ok_937 (orm_ok ok_93c (orm_ok ok_94d (orm_ok ok_922 ok_94b))))))
abbrev fa_93d : Fm := (.pair (.i .u32) .unit)
abbrev ha_93d : List BF := []
abbrev fr_93d : Fm := (.i .u32)
abbrev hr_93d : List BF := []
noncomputable def L_93d : Lps := L0
def inn_93d : T fr_93d → TH hr_93d → Int := (fun z w => z)
def out_93d : Int → T fr_93d × TH hr_93d := fun r => (r, ())
noncomputable def F_93d (a0 : Int) : Option (Int) :=
 ((F_935 a0)).bind fun r0 =>
 bif r0 then
 (some (2143289344:Int))
 else
 ((F_96a a0)).bind fun r1 =>
 ((F_937 r1)).bind fun r2 =>
 ((F_93c a0 a0)).bind fun r3 =>
 ((F_94d (1040801103:Int) r3 (1065353216:Int))).bind fun r4 =>
 ((F_93c (1061962282:Int) r4)).bind fun r5 =>
 ((F_93c (1056964608:Int) a0)).bind fun r6 =>
 ((F_93c r2 r2)).bind fun r7 =>
 ((F_922 (1065353216:Int) r7)).bind fun r8 =>
 ((F_93c r6 r8)).bind fun r9 =>
 ((F_94b (1065353216:Int) r2)).bind fun r10 =>
 ((F_93c (1056964608:Int) r10)).bind fun r11 =>
 ((F_94d r9 r5 r11)).bind fun r12 =>
 (some r12)
noncomputable def G_93d : T fa_93d → TH ha_93d → Option (Int) := fun x y => F_93d x.1
noncomputable def c_93d : Orc := ent i_93d [] 0 (sp fa_93d ha_93d fr_93d hr_93d G_93d out_93d)
theorem ok_93d : OrcOk PR c_93d := fnT okO_93d mixed p_93d (by kernel_rfl) (by kernel_rfl) (L := L_93d) (kp := false) (by kernel_rfl) (inn := inn_93d) (out := out_93d) (fun _ _ => rfl) (loopsL (l := []) (by kernel_rfl) trivial) (fun x y => by kernel_rfl)
set_option exponentiation.threshold 2000
theorem rmul_eq {a b : Int} (ha : w32 a) (hb : w32 b) : F_93c a b = some (mulf a b) := by
  unfold F_93c; rw [mulr_eq 2 0 ha hb]; rfl
theorem radd_eq {a b : Int} (ha : w32 a) (hb : w32 b) : F_94b a b = some (addf a b) := by
  unfold F_94b; rw [addr_eq 2 0 ha hb]; rfl
theorem rabove_eq {a b : Int} (ha : w32 a) (hb : w32 b) : F_91f a b = some (lt 2 b a) := by
  unfold F_91f; rw [lessr_eq 2 hb ha]; rfl
theorem rnan_eq {a : Int} (ha : w32 a) : F_935 a = some (nan 2 a) := by
  have kb := kl_le 2 a
  have kn := kl_nan 2 a
  unfold F_935
  rw [classr_eq 2 ha.1 ha.2]
  simp only [Option.bind_some]
  have : nan 2 a = decide (kl 2 a ≥ 4) := by unfold nan; exact decide_eq_decide.2 kn.symm
  rw [this]
  generalize kl 2 a = k at *
  rw [bif_eq]
  by_cases h : k = 4
  · rw [if_pos h]; subst h; rfl
  · rw [if_neg h]; congr 1; rw [Bool.eq_iff_iff]; simp; omega
theorem mask2 {a : Int} (h : w32 a) : a % (2 * TT 2) = a := by
  have h1 := h.1
  have h2 := h.2
  show a % 4294967296 = a
  omega
theorem rsub_eq {a b : Int} (ha : w32 a) (hb : w32 b) : F_922 a b = some (subf a b) := by
  unfold F_922 F_950
  rw [minusr_eq 2 hb]
  simp only [Option.bind_some]
  have wm : w32 (if nan 2 b = true then b % (2 * TT 2) else turnS 2 b) := by
    split
    · rw [mask2 hb]; exact hb
    · exact turn2_w hb
  rw [addr_eq 2 0 ha wm]
  simp only [Option.bind_some]
  congr 1
  unfold subf subS
  cases h : nan 2 b
  · simp only [Bool.false_eq_true, if_false, Bool.or_false]
    cases h2 : nan 2 a
    · rfl
    · unfold addS; rw [h2]; rfl
  · simp only [if_true, Bool.or_true]
    unfold addS; rw [mask2 hb, h]; simp
theorem rminus_eq {a : Int} (h : w32 a) (hn : nan 2 a = false) : F_969 a = some (turnS 2 a) := by
  unfold F_969; rw [minusr_eq 2 h, hn]; rfl
theorem finr_eq (f : Int) {a : Int} (ha : w32 a) : F_923 f a = some (!(nan f a || inff f a)) := by
  have kn := kl_nan f a
  have ki := kl_inf f a
  unfold F_923
  rw [classr_eq f ha.1 ha.2]
  simp only [Option.bind_some]
  have e1 : nan f a = decide (kl f a ≥ 4) := by unfold nan; exact decide_eq_decide.2 kn.symm
  have e2 : inff f a = decide (kl f a = 3) := by unfold inff; exact decide_eq_decide.2 ki.symm
  rw [e1, e2]
  congr 1
  rw [Bool.eq_iff_iff]; simp; omega
theorem scaler_eq (f mode : Int) {a : Int} (n : Int) (ha : w32 a) : F_9a2 f mode a n = some (scaleS f mode a n) := by
  have xa := xp_bd f a
  unfold F_9a2 scaleS
  rw [nans_eq f [a] (by simp) (by simpa using ha), nanr_w, finr_eq f ha, maskr_eq, unpackr_eq f ha]
  simp only [Option.bind_some, List.any_cons, List.any_nil, Bool.or_false, mn_eq, mx_eq]
  rw [wi64 (by omega), packr_eq f mode _ _ (sig_w64 f a), show min (max (xp f a + min (max n (-5000)) 5000) (-10000)) 10000 = xp f a + min (max n (-5000)) 5000 by omega, and_TT f ha.1 ha.2]
  simp only [Option.bind_some]
  rcases cls f a with ⟨a1, a3, a4⟩ | ⟨a1, a2, a3, a4⟩ | ⟨a1, a2, a3, a4⟩ | ⟨a1, a2, a3, a4⟩
  · rw [a1]; rfl
  · rw [a1, a3, a4]
    have hs : sig f a = 0 := (sig_zero f a a1 a4).2 a3
    simp only [Bool.or_false, Bool.not_false, Bool.not_true, cond_false, cond_true, Bool.false_eq_true, if_false, Bool.false_or, if_true]
    rw [hs]
    unfold pk
    rw [if_pos ⟨rfl, rfl⟩, zero_bits f ha a3]
  · rw [a1, a3, a4]; rfl
  · rw [a1, a3, a4]; rfl
theorem rscale_eq {a : Int} (n : Int) (ha : w32 a) : F_97b a n = some (scalef a n) := by
  unfold F_97b; rw [scaler_eq 2 0 n ha]; rfl
theorem ralong_eq {x p : Int} (hx : w32 x) (hp : w32 p) (l : List Int) (hl : ∀ c ∈ l, w32 c) (hn : l.length ≤ 100) : F_953 p x l = some (polyS x p l) := by
  have key := lim_seq (st := st_953_0) (fun i => ((polyS x p (l.take i), (x, (l, ((i : Int), ())))), ())) (b := ((polyS x p (l.take l.length), ()), ())) l.length
    (fun i hi R kn ko => by
      unfold st_953_0
      dsimp only
      simp only [List.take_length, bif_dec, Int.toNat_natCast]
      rw [if_pos (by omega), if_pos (by omega), rfma_eq (polyS_w hp _) hx (by
        rw [List.getD_eq_getElem?_getD, List.getElem?_eq_getElem hi]; exact hl _ (List.getElem_mem hi)), take_foldl l hi]
      simp only [Option.bind_some]
      rw [wi64 (n := (i : Int) + 1) (by omega), show ((i + 1 : Nat) : Int) = (i : Int) + 1 by omega])
    (fun R kn ko => by
      unfold st_953_0
      dsimp only
      simp only [List.take_length, bif_dec]
      rw [if_neg (by omega)])
  unfold F_953
  rw [List.take_length]
  rw [show polyS x p (l.take 0) = p from rfl] at key
  rw [List.take_length] at key
  exact (congrArg (fun o => Option.bind o fun r0 => some r0.1.1) key)
theorem ab_xp {m : Int} (h : ab 20 m) : xp 2 m < 0 := by
  apply Int.lt_of_not_ge
  intro k
  have xb := xp_bd 2 m
  have sb := sig_bd 2 m
  have h1 := h.2.1
  have h2 := h.2.2
  have hN : sig 2 m * 2 ^ (xp 2 m + 149).toNat ≤ 2 ^ 20 * 2 ^ 149 := by
    rw [show vz m = sv (sg 2 m) (sig 2 m * 2 ^ (xp 2 m + 149).toNat) from rfl] at h1 h2
    unfold sv at h1 h2; cases hs : sg 2 m <;> rw [hs] at h1 h2 <;> simp at h1 h2 ⊢ <;> omega
  have hx : ex 2 m < 255 := (ex_fin 2 m).2 h.1.2
  have hs : 8388608 ≤ sig 2 m := by
    have fb := ff_bd 2 m
    unfold xp at k
    unfold sig
    rw [show RR 2 = 256 from rfl, show BB 2 = 8388608 from rfl, show le 2 = -126 from rfl, show MM 2 = 23 from rfl] at *
    by_cases z : ex 2 m = 0
    · rw [if_pos z] at k; omega
    · rw [if_neg z, if_neg (by omega)]; omega
  have p := p2_pos (xp 2 m + 149).toNat
  have h3 : 8388608 * 2 ^ (xp 2 m + 149).toNat ≤ sig 2 m * 2 ^ (xp 2 m + 149).toNat := Int.mul_le_mul_of_nonneg_right hs (by omega)
  have h4 := p2_le (show 149 ≤ (xp 2 m + 149).toNat by omega)
  have P := p2_pos 149
  have : (2 : Int) ^ 20 = 1048576 := rfl
  omega
theorem rtoint_eq {m : Int} (h : ab 20 m) : ∃ x, F_97a 2 0 m = some (wholef m, x) := by
  have xl := ab_xp h
  have xa := xp_bd 2 m
  have sb := sig_bd 2 m
  have ha := h.1.1
  have s64 := sig_w64 2 m
  have ln24 : 0 ≤ ln (sig 2 m) ∧ ln (sig 2 m) ≤ 24 := ln_bd (k := 24) sb.1 sb.2
  have h40 : ¬ xp 2 m + ln (sig 2 m) > 40 := by omega
  have tq := toq_bd sb.1 h40
  have hn := fin_nan h.1
  have hi := fin_inf h.1
  have wb := wholef_ab (k := 20) (by decide) h
  have hw : F_9a1 2 0 m = some (sg 2 m, (unitsW 0 (sg 2 m) (xp 2 m) (sig 2 m)).1, (unitsW 0 (sg 2 m) (xp 2 m) (sig 2 m)).2, ()) := by
    unfold F_9a1 unitsW
    rw [unpackr_eq 2 ha, if_neg h40]
    simp only [Option.bind_some]
    rw [decide_eq_false (show ¬ xp 2 m ≥ 0 by omega)]
    simp only [cond_false]
    rw [wi64 (n := 0 - xp 2 m) (by omega), show (0 : Int) - xp 2 m = -xp 2 m by omega, divide_eq s64 (by omega) (by omega)]
    simp only [Option.bind_some]
    rw [and1_64 ⟨tq.1, by omega⟩, upr_eq]
    simp only [Option.bind_some]
    rw [wu64 (n := qS (sig 2 m) (-xp 2 m) + 1) (by omega)]
    unfold fin1
    have e : ((qS (sig 2 m) (-xp 2 m) % 2 == 1) : Bool) = decide (qS (sig 2 m) (-xp 2 m) % 2 = 1) := by rw [Bool.eq_iff_iff]; simp
    rw [e]
    generalize upS 0 (sg 2 m) (decide (qS (sig 2 m) (-xp 2 m) % 2 = 1)) (halfS (sig 2 m) (-xp 2 m)) (restS (sig 2 m) (-xp 2 m) false) = b
    cases b <;> cases halfS (sig 2 m) (-xp 2 m) <;> rfl
  have hz : 0 ≤ (unitsW 0 (sg 2 m) (xp 2 m) (sig 2 m)).1 ∧ (unitsW 0 (sg 2 m) (xp 2 m) (sig 2 m)).1 ≤ 1099511627777 := by
    unfold unitsW; rw [if_neg h40]
    unfold fin1
    dsimp only
    split <;> omega
  unfold wholef tointS at wb ⊢
  rw [hn, hi] at wb ⊢
  simp only [Bool.or_false, Bool.false_eq_true, if_false] at wb ⊢
  unfold F_97a
  rw [finr_eq 2 ha, hn, hi, hw]
  simp only [Option.bind_some, Bool.or_false, Bool.not_false, Bool.not_true, cond_false]
  generalize (unitsW 0 (sg 2 m) (xp 2 m) (sig 2 m)).1 = z at *
  generalize (unitsW 0 (sg 2 m) (xp 2 m) (sig 2 m)).2 = y at *
  have c20 : (2 : Int) ^ (20 + 1) = 2097152 := rfl
  rw [c20] at wb
  have zs : z ≤ 2097152 := by
    apply Int.le_of_not_gt
    intro k
    cases hs : sg 2 m <;> rw [hs] at wb <;> simp only [Bool.false_eq_true, if_false, if_true] at wb
    · split at wb
      · rename_i q; dsimp only at wb; omega
      · dsimp only at wb; omega
    · split at wb
      · rename_i q; dsimp only at wb; omega
      · dsimp only at wb; omega
  rw [decide_eq_false (show ¬ z > 2147483648 by omega), beq_false_of_ne (show z ≠ 2147483648 by omega), wi64 (n := z) (by omega), wi64 (n := 0 - z) (by omega)]
  simp only [cond_false]
  cases sg 2 m
  · simp only [Bool.false_eq_true, if_false, cond_false]
    rw [wi32 (n := z) (by omega), if_pos rfl]
    exact ⟨_, rfl⟩
  · simp only [if_true, cond_true]
    rw [show (0 : Int) - z = -z by omega, wi32 (n := -z) (by omega), if_pos rfl]
    exact ⟨_, rfl⟩
theorem rexp_eq {x : Int} (h : w32 x) : F_94a x = some (expS x) := by
  unfold F_94a expS
  rw [rnan_eq h, rabove_eq h (wlit rfl), rabove_eq (wlit rfl) h, rmul_eq h (wlit rfl)]
  simp only [Option.bind_some]
  cases h0 : nan 2 x
  · cases h1 : lt 2 1118925336 x
    · cases h2 : lt 2 x 3268407733
      · simp only [cond_false, Bool.false_eq_true, if_false]
        have a := exp_in h h0 h1 h2
        have hm : ab 8 (mulf x 1069066811) := ab_mul (i := 7) (j := 1) (by decide) (by decide) a (ab_lit (by decide +kernel))
        obtain ⟨y, hy⟩ := rtoint_eq (ab_mono (by decide) hm)
        have wb := wholef_bd (mulf x 1069066811)
        have hk := ab_int (k := 9) (by decide) (wholef_ab (by decide) hm)
        rw [hy]
        simp only [Option.bind_some]
        rw [wi64 (by omega), rint_eq (by omega)]
        simp only [Option.bind_some]
        rw [rminus_eq (intf_w _) (fin_nan hk.1)]
        simp only [Option.bind_some]
        rw [rfma_eq (turn2_w (intf_w _)) (wlit rfl) h]
        simp only [Option.bind_some]
        rw [rfma_eq (turn2_w (intf_w _)) (wlit rfl) (fma_w _ _ _)]
        simp only [Option.bind_some]
        rw [ralong_eq (fma_w _ _ _) (wlit rfl) _ (by decide) (by decide)]
        simp only [Option.bind_some]
        rw [rscale_eq _ (polyS_w (wlit rfl) _)]
        rfl
      · rfl
    · rfl
  · rfl
theorem clr {x : Int} (h : w32 x) : bits .andNot .u32 x 2147483648 = x % 2147483648 := by
  have h1 := h.1
  have h2 := h.2
  rw [u32_andNot _ _ h1 h2 (by decide) (by decide)]
  have := nat_andNot x.toNat 31 (by omega) (by omega)
  rw [show (4294967295 - 2 ^ 31 : Nat) = 4294967295 - (2147483648 : Int).toNat from rfl] at this
  first
    | (rw [this]; omega)
    | (have e := this; simp at e ⊢; omega)
theorem rtanh_eq {x : Int} (h : w32 x) : F_937 x = some (tanS x) := by
  have h1 := h.1
  have h2 := h.2
  have wa : w32 (x % 2147483648) := ⟨by omega, by omega⟩
  have ez : (x % 2147483648 == 0) = zr 2 x := by unfold zr; rw [Bool.eq_iff_iff]; simp; rfl
  have es : (x / 2147483648 == 1) = sg 2 x := by rw [sgd h, Bool.eq_iff_iff]; simp; omega
  have na : nan 2 (x % 2147483648) = nan 2 x := by
    unfold nan; rw [show TT 2 = 2147483648 from rfl, Int.emod_emod_of_dvd _ (Int.dvd_refl _)]
  unfold F_937
  rw [clr h]
  dsimp only
  rw [ez, es, rnan_eq h]
  rw [rabove_eq wa (wlit rfl), radd_eq wa wa]
  simp only [Option.bind_some]
  rw [rexp_eq (addf_w _ _)]
  simp only [Option.bind_some]
  rw [radd_eq exp_w (wlit rfl)]
  simp only [Option.bind_some]
  rw [rdiv_eq (wlit rfl) (addf_w _ _)]
  simp only [Option.bind_some]
  rw [rsub_eq (wlit rfl) (divf_w _ _)]
  simp only [Option.bind_some]
  unfold tanS
  cases h0 : nan 2 x
  · cases hz : zr 2 x
    · rw [h0] at na
      have nt := tanT_nan wa na
      unfold tanT at nt
      rw [rminus_eq (subf_w _ _) nt, rminus_eq (wlit rfl) (by decide)]
      simp only [Option.bind_some]
      have et : (if sg 2 x = true then turnS 2 x else x) = x % 2147483648 := by
        rw [turn2 h, sgd h]
        by_cases k : 2147483648 ≤ x
        · rw [if_pos (decide_eq_true k), if_pos k]; omega
        · rw [if_neg (by simp [k])]; omega
      have tw : turnS 2 (1065353216 : Int) = 3212836864 := by decide
      cases hs : sg 2 x
      · rw [hs] at et
        simp only [Bool.false_eq_true, if_false] at et ⊢
        rw [← et]
        unfold tanA tanT
        cases lt 2 1091579060 x <;> rfl
      · rw [hs] at et
        simp only [if_true] at et ⊢
        rw [← et]
        unfold tanA tanT
        cases lt 2 1091579060 (turnS 2 x) <;> simp
    · rfl
  · rfl
theorem mulf_nn {a b : Int} (h : (nan 2 a || nan 2 b) = true) : mulf a b = 2143289344 := by
  unfold mulf mulS; rw [if_pos h]; rfl
theorem fma_nn {a b c : Int} (h : (nan 2 a || nan 2 b || nan 2 c) = true) : fma a b c = 2143289344 := by
  unfold fma fmaS; rw [if_pos (by rw [Bool.or_eq_true]; left; rw [← Bool.or_assoc]; exact h)]; rfl
theorem inn_nan {x : Int} (h : nan 2 x = true) : innS x = 2143289344 := by
  unfold innS; rw [fma_nn (by simp [h])]; decide +kernel
theorem rinner_eq {x : Int} (h : w32 x) : F_96a x = some (innS x) := by
  unfold F_96a innS
  rw [rmul_eq h h]
  simp only [Option.bind_some]
  rw [rmul_eq (mulf_w _ _) h]
  simp only [Option.bind_some]
  rw [rfma_eq (wlit rfl) (mulf_w _ _) h]
  simp only [Option.bind_some]
  rw [rmul_eq (wlit rfl) (fma_w _ _ _)]
  rfl
theorem rgelu_eq {x : Int} (h : w32 x) : F_938 x = some (gelS x) := by
  unfold F_938
  rw [rnan_eq h]
  simp only [Option.bind_some]
  cases h0 : nan 2 x
  · simp only [cond_false]
    rw [rmul_eq (wlit rfl) h, rinner_eq h]
    simp only [Option.bind_some]
    rw [rtanh_eq (inn_w x)]
    simp only [Option.bind_some]
    rw [radd_eq (wlit rfl) (tanh_w (inn_w x))]
    simp only [Option.bind_some]
    rw [rmul_eq (mulf_w _ _) (addf_w _ _)]
    rfl
  · unfold gelS
    rw [mulf_nn (a := 1056964608) (b := x) (by simp [h0]), inn_nan h0]
    exact congrArg some (show (2143289344 : Int) = _ by decide +kernel)
theorem rslope_eq {x : Int} (h : w32 x) : F_93d x = some (sloS x) := by
  have ht := tanh_w (inn_w x)
  unfold F_93d
  rw [rnan_eq h]
  simp only [Option.bind_some]
  cases h0 : nan 2 x
  · simp only [cond_false]
    rw [rinner_eq h, rmul_eq h h, rmul_eq (wlit rfl) h]
    simp only [Option.bind_some]
    rw [rtanh_eq (inn_w x), rfma_eq (wlit rfl) (mulf_w _ _) (wlit rfl)]
    simp only [Option.bind_some]
    rw [rmul_eq (wlit rfl) (fma_w _ _ _), rmul_eq ht ht, radd_eq (wlit rfl) ht]
    simp only [Option.bind_some]
    rw [rsub_eq (wlit rfl) (mulf_w _ _), rmul_eq (wlit rfl) (addf_w _ _)]
    simp only [Option.bind_some]
    rw [rmul_eq (mulf_w _ _) (subf_w _ _)]
    simp only [Option.bind_some]
    rw [rfma_eq (mulf_w _ _) (mulf_w _ _) (mulf_w _ _)]
    rfl
  · unfold sloS sloT
    rw [mulf_nn (a := 1056964608) (b := x) (by simp [h0]), mulf_nn (a := x) (b := x) (by simp [h0]), inn_nan h0]
    exact congrArg some (show (2143289344 : Int) = _ by decide +kernel)
noncomputable def O_999 : Orc := orn
theorem okO_999 : OrcOk PR O_999 := (orn_ok _)
abbrev fa_999 : Fm := (.pair (.agg (.rep 2 (.i .u32))) (.pair (.agg (.rep 4 (.i .u32))) .unit))
abbrev ha_999 : List BF := []
abbrev fr_999 : Fm := (.agg (.rep 4 (.i .u32)))
abbrev hr_999 : List BF := []
noncomputable def L_999 : Lps := L0
def inn_999 : T fr_999 → TH hr_999 → List (Int) := (fun z w => z)
def out_999 : List (Int) → T fr_999 × TH hr_999 := fun r => (r, ())
noncomputable def F_999 (a0 : List (Int)) (a1 : List (Int)) : Option (List (Int)) :=
 let x0 : Int := (IntKind.wrap .u64 ((IntKind.wrap .u64 (List.getD a1 (2:Nat) (0:Int))) * (3449720151:Int)))
 let x1 : Int := (IntKind.wrap .u64 ((IntKind.wrap .u64 (List.getD a1 (0:Nat) (0:Int))) * (3528531795:Int)))
 (some [(bits .xor .u32 (bits .xor .u32 (IntKind.wrap .u32 (x0 / (4294967296:Int))) (List.getD a1 (1:Nat) (0:Int))) (List.getD a0 (0:Nat) (0:Int))), (IntKind.wrap .u32 x0), (bits .xor .u32 (bits .xor .u32 (IntKind.wrap .u32 (x1 / (4294967296:Int))) (List.getD a1 (3:Nat) (0:Int))) (List.getD a0 (1:Nat) (0:Int))), (IntKind.wrap .u32 x1)])
noncomputable def G_999 : T fa_999 → TH ha_999 → Option (List (Int)) := fun x y => F_999 x.1 x.2.1
noncomputable def c_999 : Orc := ent i_999 [] 0 (sp fa_999 ha_999 fr_999 hr_999 G_999 out_999)
theorem ok_999 : OrcOk PR c_999 := fnT okO_999 mixed p_999 (by kernel_rfl) (by kernel_rfl) (L := L_999) (kp := false) (by kernel_rfl) (inn := inn_999) (out := out_999) (fun _ _ => rfl) (loopsL (l := []) (by kernel_rfl) trivial) (fun x y => by kernel_rfl)
noncomputable def O_970 : Orc := c_999
theorem okO_970 : OrcOk PR O_970 := ok_999
abbrev fa_970 : Fm := (.pair (.agg (.rep 2 (.i .u32))) (.pair (.agg (.rep 4 (.i .u32))) .unit))
abbrev ha_970 : List BF := []
abbrev fr_970 : Fm := (.agg (.rep 4 (.i .u32)))
abbrev hr_970 : List BF := []
abbrev ff_970_0 : Fm := (.us 2 (.cst (.ref 0 1 0) (.cst (.ref 1 1 0) (.cst (.ref 2 1 0) (.pair (.i .i64) (.us 14 .unit))))))
abbrev hf_970_0 : List BF := [(.list 1 y_96 true (.rep 2 (.i .u32))), (.list 1 y_95 true (.rep 4 (.i .u32))), (.list 1 y_95 true (.rep 4 (.i .u32)))]
abbrev X_970_0 : Xs := (.one (.exit 0) [3, 4] (.us 3 (.cst (.ref 0 1 0) (.cst (.ref 1 1 0) (.us 15 .unit)))) [(.list 1 y_95 true (.rep 4 (.i .u32))), (.list 1 y_95 true (.rep 4 (.i .u32)))])
abbrev S_970_0 : Type := T ff_970_0 × TH hf_970_0
abbrev E_970_0 : Type := TX X_970_0
noncomputable def LB_970_0 : Lps := L0
noncomputable def st_970_0 : StepT S_970_0 E_970_0 := fun R v kn ko =>
 let x0 : List (T (Fm.i IntKind.u32)) := v.2.1
 let x1 : Int := (List.getD x0 (0:Nat) (0:Int))
 let x2 : Int := (List.getD x0 (1:Nat) (0:Int))
 let x3 : List (T (Fm.i IntKind.u32)) := v.2.2.1
 let x4 : List (T (Fm.i IntKind.u32)) := [(List.getD x3 (0:Nat) (0:Int)), (List.getD x3 (1:Nat) (0:Int)), (List.getD x3 (2:Nat) (0:Int)), (List.getD x3 (3:Nat) (0:Int))]
 let x5 : Int := (IntKind.wrap .u64 ((IntKind.wrap .u64 (List.getD x4 (2:Nat) (0:Int))) * (3449720151:Int)))
 let x6 : List (T (Fm.i IntKind.u32)) := [x1, x2]
 let x7 : Int := (IntKind.wrap .u64 ((IntKind.wrap .u64 (List.getD x4 (0:Nat) (0:Int))) * (3528531795:Int)))
 let x8 : List Int := [(bits .xor .u32 (bits .xor .u32 (IntKind.wrap .u32 (x5 / (4294967296:Int))) (List.getD x4 (1:Nat) (0:Int))) (List.getD x6 (0:Nat) (0:Int))), (IntKind.wrap .u32 x5), (bits .xor .u32 (bits .xor .u32 (IntKind.wrap .u32 (x7 / (4294967296:Int))) (List.getD x4 (3:Nat) (0:Int))) (List.getD x6 (1:Nat) (0:Int))), (IntKind.wrap .u32 x7)]
 let x9 : List (T (Fm.i IntKind.u32)) := v.2.2.2.1
 bif (decide (v.1.1 < (10:Int))) then
 (kn (((IntKind.wrap .i64 (v.1.1 + (1:Int))), ()), ([(IntKind.wrap .u32 (x1 + (2654435769:Int))), (IntKind.wrap .u32 (x2 + (3144134277:Int)))], ([(List.getD x8 (0:Nat) (0:Int)), (List.getD x8 (1:Nat) (0:Int)), (List.getD x8 (2:Nat) (0:Int)), (List.getD x8 (3:Nat) (0:Int))], ([(List.getD x9 (0:Nat) (0:Int)), (List.getD x9 (1:Nat) (0:Int)), (List.getD x9 (2:Nat) (0:Int)), (List.getD x9 (3:Nat) (0:Int))], ())))))
 else
 (ko ((), (x4, ([(List.getD x9 (0:Nat) (0:Int)), (List.getD x9 (1:Nat) (0:Int)), (List.getD x9 (2:Nat) (0:Int)), (List.getD x9 (3:Nat) (0:Int))], ()))))
noncomputable def ls_970_0 : St → LTr := (lsum ff_970_0 hf_970_0 X_970_0 Prod.mk id st_970_0 (hd [] [] [2, 3, 4, 5] 0))
theorem lp_970_0 : LoopOk PR 0 (lpN f_970 0) ls_970_0 := loopT okO_970 mixed (L := LB_970_0) (d := 1) (bs := []) (ks := [2, 3, 4, 5]) (loopsL (l := []) (by kernel_rfl) trivial) (by kernel_rfl) (inS := Prod.mk) (outS := id) (fun _ _ => rfl) (inX := id) (outX := id) (fun _ => rfl) (fun v R kn ko => by kernel_rfl) (hd_wk [] [] [2, 3, 4, 5] 0)
noncomputable def L_970 : Lps := (lpB 3 (.by_ ls_970_0) L0)
def inn_970 : T fr_970 → TH hr_970 → List (Int) := (fun z w => z)
def out_970 : List (Int) → T fr_970 × TH hr_970 := fun r => (r, ())
noncomputable def F_970 (a0 : List (Int)) (a1 : List (Int)) : Option (List (Int)) :=
 ((lim st_970_0 (((0:Int), ()), ([(List.getD a0 (0:Nat) (0:Int)), (List.getD a0 (1:Nat) (0:Int))], ([(List.getD a1 (0:Nat) (0:Int)), (List.getD a1 (1:Nat) (0:Int)), (List.getD a1 (2:Nat) (0:Int)), (List.getD a1 (3:Nat) (0:Int))], ([(0:Int), (0:Int), (0:Int), (0:Int)], ())))))).bind fun r0 =>
 let x1 : List (T (Fm.i IntKind.u32)) := r0.2.1
 (some [(List.getD x1 (0:Nat) (0:Int)), (List.getD x1 (1:Nat) (0:Int)), (List.getD x1 (2:Nat) (0:Int)), (List.getD x1 (3:Nat) (0:Int))])
noncomputable def G_970 : T fa_970 → TH ha_970 → Option (List (Int)) := fun x y => F_970 x.1 x.2.1
noncomputable def c_970 : Orc := ent i_970 [] 0 (sp fa_970 ha_970 fr_970 hr_970 G_970 out_970)
theorem ok_970 : OrcOk PR c_970 := fnT okO_970 mixed p_970 (by kernel_rfl) (by kernel_rfl) (L := L_970) (kp := false) (by kernel_rfl) (inn := inn_970) (out := out_970) (fun _ _ => rfl) (loopsL (l := [((lpN f_970 0), ls_970_0)]) (by kernel_rfl) ⟨lp_970_0, trivial⟩) (fun x y => by kernel_rfl)
noncomputable def O_945 : Orc := c_970
theorem okO_945 : OrcOk PR O_945 := ok_970
abbrev fa_945 : Fm := (.pair (.i .u64) (.pair (.i .u32) (.pair (.i .u64) .unit)))
abbrev ha_945 : List BF := []
abbrev fr_945 : Fm := (.i .u32)
abbrev hr_945 : List BF := []
noncomputable def L_945 : Lps := L0
def inn_945 : T fr_945 → TH hr_945 → Int := (fun z w => z)
def out_945 : Int → T fr_945 × TH hr_945 := fun r => (r, ())
noncomputable def F_945 (a0 : Int) (a1 : Int) (a2 : Int) : Option (Int) :=
 let x0 : Int := (IntKind.wrap .u64 (Int.tdiv a2 (4:Int)))
 let x1 : Nat := ((0:Nat) + ((Int.toNat (Int.tmod a2 (4:Int))) * (1:Nat)))
 ((F_970 [(IntKind.wrap .u32 a0), (IntKind.wrap .u32 (a0 / (4294967296:Int)))] [(IntKind.wrap .u32 x0), (IntKind.wrap .u32 (x0 / (4294967296:Int))), a1, (0:Int)])).bind fun r2 =>
 bif (decide (((0:Int) ≤ (Int.tmod a2 (4:Int))) ∧ ((Int.tmod a2 (4:Int)) < (4:Int)))) then
 bif (Nat.beq x1 (0:Nat)) then
 (some (List.getD r2 (0:Nat) (0:Int)))
 else
 bif (Nat.beq x1 (1:Nat)) then
 (some (List.getD r2 (1:Nat) (0:Int)))
 else
 bif (Nat.beq x1 (2:Nat)) then
 (some (List.getD r2 (2:Nat) (0:Int)))
 else
 bif (Nat.beq x1 (3:Nat)) then
 (some (List.getD r2 (3:Nat) (0:Int)))
 else
 bif (Nat.beq x1 (4:Nat)) then
 none
 else
 none
 else
 none
noncomputable def G_945 : T fa_945 → TH ha_945 → Option (Int) := fun x y => F_945 x.1 x.2.1 x.2.2.1
noncomputable def c_945 : Orc := ent i_945 [] 0 (sp fa_945 ha_945 fr_945 hr_945 G_945 out_945)
theorem ok_945 : OrcOk PR c_945 := fnT okO_945 mixed p_945 (by kernel_rfl) (by kernel_rfl) (L := L_945) (kp := false) (by kernel_rfl) (inn := inn_945) (out := out_945) (fun _ _ => rfl) (loopsL (l := []) (by kernel_rfl) trivial) (fun x y => by kernel_rfl)
noncomputable def O_947 : Orc := orn
theorem okO_947 : OrcOk PR O_947 := (orn_ok _)
abbrev fa_947 : Fm := (.pair (.agg (.rep 2 (.i .u32))) (.pair (.agg (.rep 4 (.i .u32))) .unit))
abbrev ha_947 : List BF := []
abbrev fr_947 : Fm := (.agg (.rep 4 (.i .u32)))
abbrev hr_947 : List BF := []
abbrev ff_947_0 : Fm := (.us 2 (.cst (.ref 0 1 0) (.cst (.ref 1 1 0) (.cst (.ref 2 1 0) (.pair (.i .i64) (.us 45 .unit))))))
abbrev hf_947_0 : List BF := [(.list 1 y_96 true (.rep 2 (.i .u32))), (.list 1 y_95 true (.rep 4 (.i .u32))), (.list 1 y_95 true (.rep 4 (.i .u32)))]
abbrev X_947_0 : Xs := (.one (.exit 0) [3, 4] (.us 3 (.cst (.ref 0 1 0) (.cst (.ref 1 1 0) (.us 46 .unit)))) [(.list 1 y_95 true (.rep 4 (.i .u32))), (.list 1 y_95 true (.rep 4 (.i .u32)))])
abbrev S_947_0 : Type := T ff_947_0 × TH hf_947_0
abbrev E_947_0 : Type := TX X_947_0
noncomputable def LB_947_0 : Lps := L0
noncomputable def st_947_0 : StepT S_947_0 E_947_0 := fun R v kn ko =>
 let x0 : List (T (Fm.i IntKind.u32)) := v.2.1
 let x1 : Int := (List.getD x0 (0:Nat) (0:Int))
 let x2 : Int := (List.getD x0 (1:Nat) (0:Int))
 let x3 : List (T (Fm.i IntKind.u32)) := v.2.2.1
 let x4 : Int := (List.getD x3 (2:Nat) (0:Int))
 let x5 : Int := (IntKind.wrap .u64 ((IntKind.wrap .u64 x4) * (3449720151:Int)))
 let x6 : Int := (List.getD x3 (1:Nat) (0:Int))
 let x7 : Int := (List.getD x3 (0:Nat) (0:Int))
 let x8 : Int := (IntKind.wrap .u64 ((IntKind.wrap .u64 x7) * (3528531795:Int)))
 let x9 : Int := (List.getD x3 (3:Nat) (0:Int))
 let x10 : List (T (Fm.i IntKind.u32)) := v.2.2.2.1
 bif (decide (v.1.1 < (10:Int))) then
 (kn (((IntKind.wrap .i64 (v.1.1 + (1:Int))), ()), ([(IntKind.wrap .u32 (x1 + (2654435769:Int))), (IntKind.wrap .u32 (x2 + (3144134277:Int)))], ([(bits .xor .u32 (bits .xor .u32 (IntKind.wrap .u32 (x5 / (4294967296:Int))) x6) x1), (IntKind.wrap .u32 x5), (bits .xor .u32 (bits .xor .u32 (IntKind.wrap .u32 (x8 / (4294967296:Int))) x9) x2), (IntKind.wrap .u32 x8)], ([(List.getD x10 (0:Nat) (0:Int)), (List.getD x10 (1:Nat) (0:Int)), (List.getD x10 (2:Nat) (0:Int)), (List.getD x10 (3:Nat) (0:Int))], ())))))
 else
 (ko ((), ([x7, x6, x4, x9], ([(List.getD x10 (0:Nat) (0:Int)), (List.getD x10 (1:Nat) (0:Int)), (List.getD x10 (2:Nat) (0:Int)), (List.getD x10 (3:Nat) (0:Int))], ()))))
noncomputable def ls_947_0 : St → LTr := (lsum ff_947_0 hf_947_0 X_947_0 Prod.mk id st_947_0 (hd [] [] [2, 3, 4, 5] 0))
theorem lp_947_0 : LoopOk PR 0 (lpN f_947 0) ls_947_0 := loopT okO_947 mixed (L := LB_947_0) (d := 1) (bs := []) (ks := [2, 3, 4, 5]) (loopsL (l := []) (by kernel_rfl) trivial) (by kernel_rfl) (inS := Prod.mk) (outS := id) (fun _ _ => rfl) (inX := id) (outX := id) (fun _ => rfl) (fun v R kn ko => by kernel_rfl) (hd_wk [] [] [2, 3, 4, 5] 0)
noncomputable def L_947 : Lps := (lpB 3 (.by_ ls_947_0) L0)
def inn_947 : T fr_947 → TH hr_947 → List (Int) := (fun z w => z)
def out_947 : List (Int) → T fr_947 × TH hr_947 := fun r => (r, ())
noncomputable def F_947 (a0 : List (Int)) (a1 : List (Int)) : Option (List (Int)) :=
 ((lim st_947_0 (((0:Int), ()), ([(List.getD a0 (0:Nat) (0:Int)), (List.getD a0 (1:Nat) (0:Int))], ([(List.getD a1 (0:Nat) (0:Int)), (List.getD a1 (1:Nat) (0:Int)), (List.getD a1 (2:Nat) (0:Int)), (List.getD a1 (3:Nat) (0:Int))], ([(0:Int), (0:Int), (0:Int), (0:Int)], ())))))).bind fun r0 =>
 let x1 : List (T (Fm.i IntKind.u32)) := r0.2.1
 (some [(List.getD x1 (0:Nat) (0:Int)), (List.getD x1 (1:Nat) (0:Int)), (List.getD x1 (2:Nat) (0:Int)), (List.getD x1 (3:Nat) (0:Int))])
noncomputable def G_947 : T fa_947 → TH ha_947 → Option (List (Int)) := fun x y => F_947 x.1 x.2.1
noncomputable def c_947 : Orc := ent i_947 [] 0 (sp fa_947 ha_947 fr_947 hr_947 G_947 out_947)
theorem ok_947 : OrcOk PR c_947 := fnT okO_947 mixed p_947 (by kernel_rfl) (by kernel_rfl) (L := L_947) (kp := false) (by kernel_rfl) (inn := inn_947) (out := out_947) (fun _ _ => rfl) (loopsL (l := [((lpN f_947 0), ls_947_0)]) (by kernel_rfl) ⟨lp_947_0, trivial⟩) (fun x y => by kernel_rfl)
noncomputable def O_91e : Orc := c_947
theorem okO_91e : OrcOk PR O_91e := ok_947
abbrev fa_91e : Fm := (.pair (.i .u64) (.pair (.i .u32) (.pair (.i .u64) .unit)))
abbrev ha_91e : List BF := []
abbrev fr_91e : Fm := (.i .u32)
abbrev hr_91e : List BF := []
noncomputable def L_91e : Lps := L0
def inn_91e : T fr_91e → TH hr_91e → Int := (fun z w => z)
def out_91e : Int → T fr_91e × TH hr_91e := fun r => (r, ())
noncomputable def F_91e (a0 : Int) (a1 : Int) (a2 : Int) : Option (Int) :=
 let x0 : Int := (IntKind.wrap .u64 (Int.tdiv a2 (4:Int)))
 let x1 : Nat := ((0:Nat) + ((Int.toNat (Int.tmod a2 (4:Int))) * (1:Nat)))
 ((F_947 [(IntKind.wrap .u32 a0), (IntKind.wrap .u32 (a0 / (4294967296:Int)))] [(IntKind.wrap .u32 x0), (IntKind.wrap .u32 (x0 / (4294967296:Int))), a1, (0:Int)])).bind fun r2 =>
 bif (decide (((0:Int) ≤ (Int.tmod a2 (4:Int))) ∧ ((Int.tmod a2 (4:Int)) < (4:Int)))) then
 bif (Nat.beq x1 (0:Nat)) then
 (some (List.getD r2 (0:Nat) (0:Int)))
 else
 bif (Nat.beq x1 (1:Nat)) then
 (some (List.getD r2 (1:Nat) (0:Int)))
 else
 bif (Nat.beq x1 (2:Nat)) then
 (some (List.getD r2 (2:Nat) (0:Int)))
 else
 bif (Nat.beq x1 (3:Nat)) then
 (some (List.getD r2 (3:Nat) (0:Int)))
 else
 bif (Nat.beq x1 (4:Nat)) then
 none
 else
 none
 else
 none
noncomputable def G_91e : T fa_91e → TH ha_91e → Option (Int) := fun x y => F_91e x.1 x.2.1 x.2.2.1
noncomputable def c_91e : Orc := ent i_91e [] 0 (sp fa_91e ha_91e fr_91e hr_91e G_91e out_91e)
theorem ok_91e : OrcOk PR c_91e := fnT okO_91e mixed p_91e (by kernel_rfl) (by kernel_rfl) (L := L_91e) (kp := false) (by kernel_rfl) (inn := inn_91e) (out := out_91e) (fun _ _ => rfl) (loopsL (l := []) (by kernel_rfl) trivial) (fun x y => by kernel_rfl)
noncomputable def O_940 : Orc := (orm c_92c (orm c_916 (orm c_93a c_92b)))
theorem okO_940 : OrcOk PR O_940 := (orm_ok ok_92c (orm_ok ok_916 (orm_ok ok_93a ok_92b)))
abbrev fa_940 : Fm := (.pair (.i .i64) (.pair (.i .u32) (.cst (.ref 0 1 0) (.cst (.ref 1 1 0) (.cst (.ref 2 1 0) .unit)))))
abbrev ha_940 : List BF := [(.list 1 y_91 true (.pair (.i .i64) (.pair (.i .i64) (.pair (.i .i64) (.pair (.si .u32) .unit))))), (.ints 1 y_90 true .i64), (.list 1 y_91 true (.pair (.i .i64) (.pair (.i .i64) (.pair (.i .i64) (.pair (.si .u32) .unit)))))]
abbrev fr_940 : Fm := (.i .u32)
abbrev hr_940 : List BF := [(.list 1 y_91 true (.pair (.i .i64) (.pair (.i .i64) (.pair (.i .i64) (.pair (.si .u32) .unit))))), (.ints 1 y_90 true .i64), (.list 1 y_91 true (.pair (.i .i64) (.pair (.i .i64) (.pair (.i .i64) (.pair (.si .u32) .unit)))))]
noncomputable def L_940 : Lps := L0
def inn_940 : T fr_940 → TH hr_940 → (Int) × ((Int × Int × Int × List Int × Unit) × List Int × (Int × Int × Int × List Int × Unit) × Unit) := Prod.mk
def out_940 : (Int) × ((Int × Int × Int × List Int × Unit) × List Int × (Int × Int × Int × List Int × Unit) × Unit) → T fr_940 × TH hr_940 := id
noncomputable def F_940 (a0 : Int) (a1 : Int) (a2 : Int × Int × Int × List Int × Unit) (a3 : List Int) (a4 : Int × Int × Int × List Int × Unit) : Option ((Int) × ((Int × Int × Int × List Int × Unit) × List Int × (Int × Int × Int × List Int × Unit) × Unit)) :=
 let x0 : Int := a2.2.2.1
 let x1 : Int := a4.2.2.1
 let x2 : List Int := a4.2.2.2.1
 let x3 : List Int := a2.2.2.2.1
 ((F_92c x0 a1)).bind fun r4 =>
 bif (decide ((0:Nat) < (List.length a3))) then
 bif (decide (((0:Int) ≤ a0) ∧ (a0 < (((List.length x2) : Nat) : Int)))) then
 ((F_92c x1 (List.getD x2 (Int.toNat a0) (0:Int)))).bind fun r5 =>
 ((F_916 (List.getD a3 (0:Nat) (0:Int)) r5)).bind fun r6 =>
 ((F_93a r4 r6)).bind fun r7 =>
 ((F_92b x0 r7)).bind fun r8 =>
 (some (r8, ((a2.1, (a2.2.1, (x0, ((List.take (List.length x3) x3), ())))), (a3, ((a4.1, (a4.2.1, (x1, ((List.take (List.length x2) x2), ())))), ())))))
 else
 none
 else
 none
noncomputable def G_940 : T fa_940 → TH ha_940 → Option ((Int) × ((Int × Int × Int × List Int × Unit) × List Int × (Int × Int × Int × List Int × Unit) × Unit)) := fun x y => F_940 x.1 x.2.1 y.1 y.2.1 y.2.2.1
noncomputable def c_940 : Orc := ent i_940 [false, false, true, true, true] 0 (sp fa_940 ha_940 fr_940 hr_940 G_940 out_940)
theorem ok_940 : OrcOk PR c_940 := fnT okO_940 mixed p_940 (by kernel_rfl) (by kernel_rfl) (L := L_940) (kp := false) (by kernel_rfl) (inn := inn_940) (out := out_940) (fun _ _ => rfl) (loopsL (l := []) (by kernel_rfl) trivial) (fun x y => by kernel_rfl)
noncomputable def O_9b9 : Orc := c_940
theorem okO_9b9 : OrcOk PR O_9b9 := ok_940
abbrev fa_9b9 : Fm := (.pair (.agg (.pair (.i .i64) (.pair (.i .i64) (.pair (.i .i64) (.pair (.si .u32) .unit))))) (.pair (.i .i64) (.pair (.fn i_940 (.pair (.ref 0 1 0) (.pair (.ref 1 1 0) (.pair (.ref 2 1 0) .unit)))) .unit)))
abbrev ha_9b9 : List BF := [(.list 1 y_91 true (.pair (.i .i64) (.pair (.i .i64) (.pair (.i .i64) (.pair (.si .u32) .unit))))), (.ints 1 y_90 true .i64), (.list 1 y_91 true (.pair (.i .i64) (.pair (.i .i64) (.pair (.i .i64) (.pair (.si .u32) .unit)))))]
abbrev fr_9b9 : Fm := (.agg (.pair (.i .i64) (.pair (.i .i64) (.pair (.i .i64) (.pair (.si .u32) .unit)))))
abbrev hr_9b9 : List BF := [(.list 1 y_91 true (.pair (.i .i64) (.pair (.i .i64) (.pair (.i .i64) (.pair (.si .u32) .unit))))), (.ints 1 y_90 true .i64), (.list 1 y_91 true (.pair (.i .i64) (.pair (.i .i64) (.pair (.i .i64) (.pair (.si .u32) .unit)))))]
abbrev ff_9b9_0 : Fm := (.us 2 (.cst (.fn i_940 (.cst (.ref 0 1 0) (.cst (.ref 1 1 0) (.cst (.ref 2 1 0) .unit)))) (.us 3 (.cst (.ref 3 1 0) (.cst (.ref 4 1 0) (.us 13 (.pair (.si .u32) (.pair (.i .i64) (.pair (.i .i64) (.us 14 .unit))))))))))
abbrev hf_9b9_0 : List BF := [(.list 1 y_91 true (.pair (.i .i64) (.pair (.i .i64) (.pair (.i .i64) (.pair (.si .u32) .unit))))), (.ints 1 y_90 true .i64), (.list 1 y_91 true (.pair (.i .i64) (.pair (.i .i64) (.pair (.i .i64) (.pair (.si .u32) .unit))))), (.list 1 y_91 true (.pair (.i .i64) (.pair (.i .i64) (.pair (.i .i64) (.cst .nils .unit))))), (.list 1 y_91 true (.pair (.i .i64) (.pair (.i .i64) (.pair (.i .i64) (.pair (.own 5 1 0 1) .unit))))), (.ints 1 y_92 true .u32)]
abbrev X_9b9_0 : Xs := (.one (.exit 0) [6, 7] (.us 6 (.cst (.ref 3 1 0) (.cst (.ref 4 1 0) (.us 30 .unit)))) [(.list 1 y_91 true (.pair (.i .i64) (.pair (.i .i64) (.pair (.i .i64) (.pair (.si .u32) .unit))))), (.ints 1 y_90 true .i64), (.list 1 y_91 true (.pair (.i .i64) (.pair (.i .i64) (.pair (.i .i64) (.pair (.si .u32) .unit))))), (.list 1 y_91 true (.pair (.i .i64) (.pair (.i .i64) (.pair (.i .i64) (.cst .nils .unit))))), (.list 1 y_91 true (.pair (.i .i64) (.pair (.i .i64) (.pair (.i .i64) (.pair (.own 5 1 0 1) .unit))))), (.ints 1 y_92 true .u32)])
abbrev S_9b9_0 : Type := T ff_9b9_0 × TH hf_9b9_0
abbrev E_9b9_0 : Type := TX X_9b9_0
noncomputable def LB_9b9_0 : Lps := L0
noncomputable def st_9b9_0 : StepT S_9b9_0 E_9b9_0 := fun R v kn ko =>
 let x0 : Int := v.1.2.2.1
 let x1 : List Int := v.1.1
 let x2 : Nat := (Int.toNat x0)
 let x3 : List Int := v.2.1.2.2.2.1
 let x4 : List Int := v.2.2.1
 let x5 : List Int := v.2.2.2.1.2.2.2.1
 bif (decide (x0 < v.1.2.1)) then
 bif (decide (((0:Int) ≤ x0) ∧ (x0 < (((List.length x1) : Nat) : Int)))) then
 ((F_940 x0 (List.getD x1 x2 (0:Int)) (v.2.1.1, (v.2.1.2.1, (v.2.1.2.2.1, ((List.take (List.length x3) x3), ())))) x4 (v.2.2.2.1.1, (v.2.2.2.1.2.1, (v.2.2.2.1.2.2.1, ((List.take (List.length x5) x5), ())))))).bind fun r6 =>
 let x7 : List Int := r6.2.1.2.2.2.1
 let x8 : List Int := r6.2.2.2.1.2.2.2.1
 bif (decide (((0:Int) ≤ x0) ∧ (x0 < ((v.2.2.2.2.2.1.2.2.2.1 : Nat) : Int)))) then
 bif (decide (((0:Nat) + (x2 * (1:Nat))) < (List.length v.2.2.2.2.2.2.1))) then
 (kn (((List.take (List.length x1) x1), (v.1.2.1, ((IntKind.wrap .i64 (x0 + (1:Int))), ()))), ((r6.2.1.1, (r6.2.1.2.1, (r6.2.1.2.2.1, ((List.take (List.length x7) x7), ())))), (r6.2.2.1, ((r6.2.2.2.1.1, (r6.2.2.2.1.2.1, (r6.2.2.2.1.2.2.1, ((List.take (List.length x8) x8), ())))), (v.2.2.2.2.1, (v.2.2.2.2.2.1, ((List.set v.2.2.2.2.2.2.1 ((0:Nat) + (x2 * (1:Nat))) r6.1), ()))))))))
 else
 none
 else
 none
 else
 none
 else
 (ko ((), ((v.2.1.1, (v.2.1.2.1, (v.2.1.2.2.1, ((List.take (List.length x3) x3), ())))), (x4, ((v.2.2.2.1.1, (v.2.2.2.1.2.1, (v.2.2.2.1.2.2.1, ((List.take (List.length x5) x5), ())))), v.2.2.2.2)))))
noncomputable def ls_9b9_0 : St → LTr := (lsum ff_9b9_0 hf_9b9_0 X_9b9_0 Prod.mk id st_9b9_0 (hd [] [] [2, 6, 7, 21, 22, 23] 3))
theorem lp_9b9_0 : LoopOk PR 3 (lpN f_929 0) ls_9b9_0 := loopT okO_9b9 mixed (L := LB_9b9_0) (d := 1) (bs := []) (ks := [2, 6, 7, 21, 22, 23]) (loopsL (l := []) (by kernel_rfl) trivial) (by kernel_rfl) (inS := Prod.mk) (outS := id) (fun _ _ => rfl) (inX := id) (outX := id) (fun _ => rfl) (fun v R kn ko => by kernel_rfl) (hd_wk [] [] [2, 6, 7, 21, 22, 23] 3)
noncomputable def L_9b9 : Lps := (lpB 4 (.by_ ls_9b9_0) L0)
def inn_9b9 : T fr_9b9 → TH hr_9b9 → (Int × Int × Int × List Int × Unit) × ((Int × Int × Int × List Int × Unit) × List Int × (Int × Int × Int × List Int × Unit) × Unit) := Prod.mk
def out_9b9 : (Int × Int × Int × List Int × Unit) × ((Int × Int × Int × List Int × Unit) × List Int × (Int × Int × Int × List Int × Unit) × Unit) → T fr_9b9 × TH hr_9b9 := id
noncomputable def F_9b9 (a0 : Int × Int × Int × List Int × Unit) (a1 : Int) (a2 : Int × Int × Int × List Int × Unit) (a3 : List Int) (a4 : Int × Int × Int × List Int × Unit) : Option ((Int × Int × Int × List Int × Unit) × ((Int × Int × Int × List Int × Unit) × List Int × (Int × Int × Int × List Int × Unit) × Unit)) :=
 let x0 : List Int := a0.2.2.2.1
 let x1 : Nat := (List.length x0)
 let x2 : Int := ((x1 : Nat) : Int)
 let x3 : Int := a2.2.2.1
 let x4 : List Int := a2.2.2.2.1
 let x5 : Int := a4.2.2.1
 let x6 : List Int := a4.2.2.2.1
 let x7 : Nat := (Int.toNat x2)
 bif (decide (((0:Int) ≤ x2) ∧ (x2 ≤ (1073741824:Int)))) then
 ((lim st_9b9_0 (((List.take x1 x0), (x2, ((0:Int), ()))), ((a2.1, (a2.2.1, (x3, ((List.take (List.length x4) x4), ())))), (a3, ((a4.1, (a4.2.1, (x5, ((List.take (List.length x6) x6), ())))), (((0:Int), ((0:Int), ((0:Int), ()))), ((a0.1, (a0.2.1, (a1, (x7, ())))), ((List.replicate x7 (0:Int)), ()))))))))).bind fun r8 =>
 let x9 : List Int := r8.2.1.2.2.2.1
 let x10 : List Int := r8.2.2.2.1.2.2.2.1
 (some ((r8.2.2.2.2.2.1.1, (r8.2.2.2.2.2.1.2.1, (r8.2.2.2.2.2.1.2.2.1, ((List.take r8.2.2.2.2.2.1.2.2.2.1 (List.drop (0:Nat) r8.2.2.2.2.2.2.1)), ())))), ((r8.2.1.1, (r8.2.1.2.1, (r8.2.1.2.2.1, ((List.take (List.length x9) x9), ())))), (r8.2.2.1, ((r8.2.2.2.1.1, (r8.2.2.2.1.2.1, (r8.2.2.2.1.2.2.1, ((List.take (List.length x10) x10), ())))), ())))))
 else
 none
noncomputable def G_9b9 : T fa_9b9 → TH ha_9b9 → Option ((Int × Int × Int × List Int × Unit) × ((Int × Int × Int × List Int × Unit) × List Int × (Int × Int × Int × List Int × Unit) × Unit)) := fun x y => F_9b9 x.1 x.2.1 y.1 y.2.1 y.2.2.1
noncomputable def c_9b9 : Orc := ent i_929 [false, false, true] 0 (sp fa_9b9 ha_9b9 fr_9b9 hr_9b9 G_9b9 out_9b9)
theorem ok_9b9 : OrcOk PR c_9b9 := fnT okO_9b9 mixed p_929 (by kernel_rfl) (by kernel_rfl) (L := L_9b9) (kp := false) (by kernel_rfl) (inn := inn_9b9) (out := out_9b9) (fun _ _ => rfl) (loopsL (l := [((lpN f_929 0), ls_9b9_0)]) (by kernel_rfl) ⟨lp_9b9_0, trivial⟩) (fun x y => by kernel_rfl)
noncomputable def O_919 : Orc := (orm c_927 (orm c_928 (orm c_9b9 c_940)))
theorem okO_919 : OrcOk PR O_919 := (orm_ok ok_927 (orm_ok ok_928 (orm_ok ok_9b9 ok_940)))
abbrev fa_919 : Fm := (.pair (.i .i64) (.pair (.agg (.pair (.i .i64) (.pair (.i .i64) (.pair (.i .i64) (.pair (.si .u32) .unit))))) (.pair (.agg (.pair (.i .i64) (.pair (.i .i64) (.pair (.i .i64) (.pair (.si .u32) .unit))))) .unit)))
abbrev ha_919 : List BF := []
abbrev fr_919 : Fm := (.tup (.pair (.agg (.pair (.i .i64) (.pair (.i .i64) (.pair (.i .i64) (.pair (.si .u32) .unit))))) (.pair (.i .i64) .unit)))
abbrev hr_919 : List BF := []
noncomputable def L_919 : Lps := L0
def inn_919 : T fr_919 → TH hr_919 → (Int × Int × Int × List Int × Unit) × Int × Unit := (fun z w => z)
def out_919 : (Int × Int × Int × List Int × Unit) × Int × Unit → T fr_919 × TH hr_919 := fun r => (r, ())
noncomputable def F_919 (a0 : Int) (a1 : Int × Int × Int × List Int × Unit) (a2 : Int × Int × Int × List Int × Unit) : Option ((Int × Int × Int × List Int × Unit) × Int × Unit) :=
 let x0 : Int := a1.2.2.1
 let x1 : List Int := a1.2.2.2.1
 let x2 : Int := a2.2.2.1
 let x3 : List Int := a2.2.2.2.1
 ((F_927 (a1.1, (a1.2.1, (x0, ((List.take (List.length x1) x1), ())))))).bind fun r4 =>
 bif (!r4) then
 (some (((0:Int), ((0:Int), ((0:Int), ([], ())))), ((21:Int), ())))
 else
 ((F_927 (a2.1, (a2.2.1, (x2, ((List.take (List.length x3) x3), ())))))).bind fun r5 =>
 bif (!r5) then
 (some (((0:Int), ((0:Int), ((0:Int), ([], ())))), ((21:Int), ())))
 else
 bif (a1.1 != a2.1) then
 (some (((0:Int), ((0:Int), ((0:Int), ([], ())))), ((21:Int), ())))
 else
 bif (a1.2.1 != a2.2.1) then
 (some (((0:Int), ((0:Int), ((0:Int), ([], ())))), ((21:Int), ())))
 else
 ((F_928 (List.getD [a0] (0:Nat) (0:Int)))).bind fun r6 =>
 bif (!r6) then
 (some (((0:Int), ((0:Int), ((0:Int), ([], ())))), ((22:Int), ())))
 else
 ((F_9b9 (a2.1, (a2.2.1, (x2, ((List.take (List.length x3) x3), ())))) x2 (a2.1, (a2.2.1, (x2, ((List.take (List.length x3) x3), ())))) [a0] (a1.1, (a1.2.1, (x0, ((List.take (List.length x1) x1), ())))))).bind fun r7 =>
 let x8 : List Int := r7.1.2.2.2.1
 (some ((r7.1.1, (r7.1.2.1, (r7.1.2.2.1, ((List.take (List.length x8) x8), ())))), ((0:Int), ())))
noncomputable def G_919 : T fa_919 → TH ha_919 → Option ((Int × Int × Int × List Int × Unit) × Int × Unit) := fun x y => F_919 x.1 x.2.1 x.2.2.1
noncomputable def c_919 : Orc := ent i_919 [] 0 (sp fa_919 ha_919 fr_919 hr_919 G_919 out_919)
theorem ok_919 : OrcOk PR c_919 := fnT okO_919 mixed p_919 (by kernel_rfl) (by kernel_rfl) (L := L_919) (kp := false) (by kernel_rfl) (inn := inn_919) (out := out_919) (fun _ _ => rfl) (loopsL (l := []) (by kernel_rfl) trivial) (fun x y => by kernel_rfl)
noncomputable def O_943 : Orc := c_95a
theorem okO_943 : OrcOk PR O_943 := ok_95a
abbrev fa_943 : Fm := (.pair (.i .i64) (.pair (.i .i64) (.pair (.i .i64) .unit)))
abbrev ha_943 : List BF := []
abbrev fr_943 : Fm := (.agg (.pair (.i .i64) (.pair (.i .i64) (.pair (.i .i64) (.pair (.si .u32) .unit)))))
abbrev hr_943 : List BF := []
noncomputable def L_943 : Lps := L0
def inn_943 : T fr_943 → TH hr_943 → Int × Int × Int × List Int × Unit := (fun z w => z)
def out_943 : Int × Int × Int × List Int × Unit → T fr_943 × TH hr_943 := fun r => (r, ())
noncomputable def F_943 (a0 : Int) (a1 : Int) (a2 : Int) : Option (Int × Int × Int × List Int × Unit) :=
 let x0 : Int := (bif (decide ((IntKind.wrap .i64 ((mn (mx a0 (0:Int)) (4096:Int)) * (mn (mx a1 (0:Int)) (4096:Int)))) > (262144:Int))) then (0:Int) else (mn (mx a0 (0:Int)) (4096:Int)))
 let x1 : Int := (bif (decide ((IntKind.wrap .i64 ((mn (mx a0 (0:Int)) (4096:Int)) * (mn (mx a1 (0:Int)) (4096:Int)))) > (262144:Int))) then (0:Int) else (mn (mx a1 (0:Int)) (4096:Int)))
 let x2 : Nat := (Int.toNat (IntKind.wrap .i64 (x0 * x1)))
 ((F_95a a2)).bind fun r3 =>
 bif (decide (((0:Int) ≤ (IntKind.wrap .i64 (x0 * x1))) ∧ ((IntKind.wrap .i64 (x0 * x1)) ≤ (1073741824:Int)))) then
 (some (x0, (x1, ((bif (!r3) then (2:Int) else a2), ((List.take x2 (List.drop (0:Nat) (List.replicate x2 (0:Int)))), ())))))
 else
 none
noncomputable def G_943 : T fa_943 → TH ha_943 → Option (Int × Int × Int × List Int × Unit) := fun x y => F_943 x.1 x.2.1 x.2.2.1
noncomputable def c_943 : Orc := ent i_943 [] 0 (sp fa_943 ha_943 fr_943 hr_943 G_943 out_943)
theorem ok_943 : OrcOk PR c_943 := fnT okO_943 mixed p_943 (by kernel_rfl) (by kernel_rfl) (L := L_943) (kp := false) (by kernel_rfl) (inn := inn_943) (out := out_943) (fun _ _ => rfl) (loopsL (l := []) (by kernel_rfl) trivial) (fun x y => by kernel_rfl)
noncomputable def O_944 : Orc := c_945
theorem okO_944 : OrcOk PR O_944 := ok_945
abbrev fa_944 : Fm := (.pair (.i .i64) (.pair (.i .u32) (.cst (.ref 0 1 0) (.cst (.ref 1 1 0) (.cst (.ref 2 1 0) (.cst (.ref 3 1 0) .unit))))))
abbrev ha_944 : List BF := [(.ints 1 y_93 true .u64), (.ints 1 y_92 true .u32), (.ints 1 y_92 true .u32), (.ints 1 y_92 true .u32)]
abbrev fr_944 : Fm := (.i .u32)
abbrev hr_944 : List BF := [(.ints 1 y_93 true .u64), (.ints 1 y_92 true .u32), (.ints 1 y_92 true .u32), (.ints 1 y_92 true .u32)]
noncomputable def L_944 : Lps := L0
def inn_944 : T fr_944 → TH hr_944 → (Int) × (List Int × List Int × List Int × List Int × Unit) := Prod.mk
def out_944 : (Int) × (List Int × List Int × List Int × List Int × Unit) → T fr_944 × TH hr_944 := id
noncomputable def F_944 (a0 : Int) (a1 : Int) (a2 : List Int) (a3 : List Int) (a4 : List Int) (a5 : List Int) : Option ((Int) × (List Int × List Int × List Int × List Int × Unit)) :=
 bif (decide ((0:Nat) < (List.length a2))) then
 bif (decide ((0:Nat) < (List.length a3))) then
 ((F_945 (List.getD a2 (0:Nat) (0:Int)) (List.getD a3 (0:Nat) (0:Int)) (IntKind.wrap .u64 a0))).bind fun r0 =>
 bif (decide ((0:Nat) < (List.length a4))) then
 bif (decide (r0 < (List.getD a4 (0:Nat) (0:Int)))) then
 (some ((0:Int), (a2, (a3, (a4, (a5, ()))))))
 else
 bif (decide ((0:Nat) < (List.length a5))) then
 (some ((List.getD a5 (0:Nat) (0:Int)), (a2, (a3, (a4, (a5, ()))))))
 else
 none
 else
 none
 else
 none
 else
 none
noncomputable def G_944 : T fa_944 → TH ha_944 → Option ((Int) × (List Int × List Int × List Int × List Int × Unit)) := fun x y => F_944 x.1 x.2.1 y.1 y.2.1 y.2.2.1 y.2.2.2.1
noncomputable def c_944 : Orc := ent i_944 [false, false, true, true, true, true] 0 (sp fa_944 ha_944 fr_944 hr_944 G_944 out_944)
theorem ok_944 : OrcOk PR c_944 := fnT okO_944 mixed p_944 (by kernel_rfl) (by kernel_rfl) (L := L_944) (kp := false) (by kernel_rfl) (inn := inn_944) (out := out_944) (fun _ _ => rfl) (loopsL (l := []) (by kernel_rfl) trivial) (fun x y => by kernel_rfl)
noncomputable def O_9ba : Orc := c_944
theorem okO_9ba : OrcOk PR O_9ba := ok_944
abbrev fa_9ba : Fm := (.pair (.agg (.pair (.i .i64) (.pair (.i .i64) (.pair (.i .i64) (.pair (.si .u32) .unit))))) (.pair (.i .i64) (.pair (.fn i_944 (.pair (.ref 0 1 0) (.pair (.ref 1 1 0) (.pair (.ref 2 1 0) (.pair (.ref 3 1 0) .unit))))) .unit)))
abbrev ha_9ba : List BF := [(.ints 1 y_93 true .u64), (.ints 1 y_92 true .u32), (.ints 1 y_92 true .u32), (.ints 1 y_92 true .u32)]
abbrev fr_9ba : Fm := (.agg (.pair (.i .i64) (.pair (.i .i64) (.pair (.i .i64) (.pair (.si .u32) .unit)))))
abbrev hr_9ba : List BF := [(.ints 1 y_93 true .u64), (.ints 1 y_92 true .u32), (.ints 1 y_92 true .u32), (.ints 1 y_92 true .u32)]
abbrev ff_9ba_0 : Fm := (.us 2 (.cst (.fn i_944 (.cst (.ref 0 1 0) (.cst (.ref 1 1 0) (.cst (.ref 2 1 0) (.cst (.ref 3 1 0) .unit))))) (.us 3 (.cst (.ref 4 1 0) (.cst (.ref 5 1 0) (.us 13 (.pair (.si .u32) (.pair (.i .i64) (.pair (.i .i64) (.us 14 .unit))))))))))
abbrev hf_9ba_0 : List BF := [(.ints 1 y_93 true .u64), (.ints 1 y_92 true .u32), (.ints 1 y_92 true .u32), (.ints 1 y_92 true .u32), (.list 1 y_91 true (.pair (.i .i64) (.pair (.i .i64) (.pair (.i .i64) (.cst .nils .unit))))), (.list 1 y_91 true (.pair (.i .i64) (.pair (.i .i64) (.pair (.i .i64) (.pair (.own 6 1 0 1) .unit))))), (.ints 1 y_92 true .u32)]
abbrev X_9ba_0 : Xs := (.one (.exit 0) [6, 7] (.us 6 (.cst (.ref 4 1 0) (.cst (.ref 5 1 0) (.us 30 .unit)))) [(.ints 1 y_93 true .u64), (.ints 1 y_92 true .u32), (.ints 1 y_92 true .u32), (.ints 1 y_92 true .u32), (.list 1 y_91 true (.pair (.i .i64) (.pair (.i .i64) (.pair (.i .i64) (.cst .nils .unit))))), (.list 1 y_91 true (.pair (.i .i64) (.pair (.i .i64) (.pair (.i .i64) (.pair (.own 6 1 0 1) .unit))))), (.ints 1 y_92 true .u32)])
abbrev S_9ba_0 : Type := T ff_9ba_0 × TH hf_9ba_0
abbrev E_9ba_0 : Type := TX X_9ba_0
noncomputable def LB_9ba_0 : Lps := L0
noncomputable def st_9ba_0 : StepT S_9ba_0 E_9ba_0 := fun R v kn ko =>
 let x0 : Int := v.1.2.2.1
 let x1 : List Int := v.1.1
 let x2 : Nat := (Int.toNat x0)
 bif (decide (x0 < v.1.2.1)) then
 bif (decide (((0:Int) ≤ x0) ∧ (x0 < (((List.length x1) : Nat) : Int)))) then
 ((F_944 x0 (List.getD x1 x2 (0:Int)) v.2.1 v.2.2.1 v.2.2.2.1 v.2.2.2.2.1)).bind fun r3 =>
 bif (decide (((0:Int) ≤ x0) ∧ (x0 < ((v.2.2.2.2.2.2.1.2.2.2.1 : Nat) : Int)))) then
 bif (decide (((0:Nat) + (x2 * (1:Nat))) < (List.length v.2.2.2.2.2.2.2.1))) then
 (kn (((List.take (List.length x1) x1), (v.1.2.1, ((IntKind.wrap .i64 (x0 + (1:Int))), ()))), (r3.2.1, (r3.2.2.1, (r3.2.2.2.1, (r3.2.2.2.2.1, (v.2.2.2.2.2.1, (v.2.2.2.2.2.2.1, ((List.set v.2.2.2.2.2.2.2.1 ((0:Nat) + (x2 * (1:Nat))) r3.1), ())))))))))
 else
 none
 else
 none
 else
 none
 else
 (ko ((), v.2))
noncomputable def ls_9ba_0 : St → LTr := (lsum ff_9ba_0 hf_9ba_0 X_9ba_0 Prod.mk id st_9ba_0 (hd [] [] [2, 6, 7, 21, 22, 23] 4))
theorem lp_9ba_0 : LoopOk PR 4 (lpN f_929 0) ls_9ba_0 := loopT okO_9ba mixed (L := LB_9ba_0) (d := 1) (bs := []) (ks := [2, 6, 7, 21, 22, 23]) (loopsL (l := []) (by kernel_rfl) trivial) (by kernel_rfl) (inS := Prod.mk) (outS := id) (fun _ _ => rfl) (inX := id) (outX := id) (fun _ => rfl) (fun v R kn ko => by kernel_rfl) (hd_wk [] [] [2, 6, 7, 21, 22, 23] 4)
noncomputable def L_9ba : Lps := (lpB 4 (.by_ ls_9ba_0) L0)
def inn_9ba : T fr_9ba → TH hr_9ba → (Int × Int × Int × List Int × Unit) × (List Int × List Int × List Int × List Int × Unit) := Prod.mk
def out_9ba : (Int × Int × Int × List Int × Unit) × (List Int × List Int × List Int × List Int × Unit) → T fr_9ba × TH hr_9ba := id
noncomputable def F_9ba (a0 : Int × Int × Int × List Int × Unit) (a1 : Int) (a2 : List Int) (a3 : List Int) (a4 : List Int) (a5 : List Int) : Option ((Int × Int × Int × List Int × Unit) × (List Int × List Int × List Int × List Int × Unit)) :=
 let x0 : List Int := a0.2.2.2.1
 let x1 : Nat := (List.length x0)
 let x2 : Int := ((x1 : Nat) : Int)
 let x3 : Nat := (Int.toNat x2)
 bif (decide (((0:Int) ≤ x2) ∧ (x2 ≤ (1073741824:Int)))) then
 ((lim st_9ba_0 (((List.take x1 x0), (x2, ((0:Int), ()))), (a2, (a3, (a4, (a5, (((0:Int), ((0:Int), ((0:Int), ()))), ((a0.1, (a0.2.1, (a1, (x3, ())))), ((List.replicate x3 (0:Int)), ())))))))))).bind fun r4 =>
 (some ((r4.2.2.2.2.2.2.1.1, (r4.2.2.2.2.2.2.1.2.1, (r4.2.2.2.2.2.2.1.2.2.1, ((List.take r4.2.2.2.2.2.2.1.2.2.2.1 (List.drop (0:Nat) r4.2.2.2.2.2.2.2.1)), ())))), (r4.2.1, (r4.2.2.1, (r4.2.2.2.1, (r4.2.2.2.2.1, ()))))))
 else
 none
noncomputable def G_9ba : T fa_9ba → TH ha_9ba → Option ((Int × Int × Int × List Int × Unit) × (List Int × List Int × List Int × List Int × Unit)) := fun x y => F_9ba x.1 x.2.1 y.1 y.2.1 y.2.2.1 y.2.2.2.1
noncomputable def c_9ba : Orc := ent i_929 [false, false, true] 0 (sp fa_9ba ha_9ba fr_9ba hr_9ba G_9ba out_9ba)
theorem ok_9ba : OrcOk PR c_9ba := fnT okO_9ba mixed p_929 (by kernel_rfl) (by kernel_rfl) (L := L_9ba) (kp := false) (by kernel_rfl) (inn := inn_9ba) (out := out_9ba) (fun _ _ => rfl) (loopsL (l := [((lpN f_929 0), ls_9ba_0)]) (by kernel_rfl) ⟨lp_9ba_0, trivial⟩) (fun x y => by kernel_rfl)
noncomputable def O_91c : Orc := (orm c_942 (orm c_941 (orm c_943 (orm c_9ba c_944))))
theorem okO_91c : OrcOk PR O_91c := (orm_ok ok_942 (orm_ok ok_941 (orm_ok ok_943 (orm_ok ok_9ba ok_944))))
abbrev fa_91c : Fm := (.pair (.i .i64) (.pair (.i .i64) (.pair (.i .u32) (.pair (.i .u64) (.pair (.i .u32) .unit)))))
abbrev ha_91c : List BF := []
abbrev fr_91c : Fm := (.agg (.pair (.i .i64) (.pair (.i .i64) (.pair (.i .i64) (.pair (.si .u32) .unit)))))
abbrev hr_91c : List BF := []
noncomputable def L_91c : Lps := L0
def inn_91c : T fr_91c → TH hr_91c → Int × Int × Int × List Int × Unit := (fun z w => z)
def out_91c : Int × Int × Int × List Int × Unit → T fr_91c × TH hr_91c := fun r => (r, ())
noncomputable def F_91c (a0 : Int) (a1 : Int) (a2 : Int) (a3 : Int) (a4 : Int) : Option (Int × Int × Int × List Int × Unit) :=
 ((F_942 (IntKind.wrap .i64 ((4294967296:Int) - (IntKind.wrap .i64 (List.getD [a2] (0:Nat) (0:Int))))))).bind fun r0 =>
 ((F_941 (1333788672:Int) r0)).bind fun r1 =>
 ((F_943 a0 a1 (2:Int))).bind fun r2 =>
 let x3 : Int := r2.2.2.1
 let x4 : List Int := r2.2.2.2.1
 ((F_9ba (r2.1, (r2.2.1, (x3, ((List.take (List.length x4) x4), ())))) (2:Int) [a3] [a4] [a2] [r1])).bind fun r5 =>
 let x6 : List Int := r5.1.2.2.2.1
 (some (r5.1.1, (r5.1.2.1, (r5.1.2.2.1, ((List.take (List.length x6) x6), ())))))
noncomputable def G_91c : T fa_91c → TH ha_91c → Option (Int × Int × Int × List Int × Unit) := fun x y => F_91c x.1 x.2.1 x.2.2.1 x.2.2.2.1 x.2.2.2.2.1
noncomputable def c_91c : Orc := ent i_91c [] 0 (sp fa_91c ha_91c fr_91c hr_91c G_91c out_91c)
theorem ok_91c : OrcOk PR c_91c := fnT okO_91c mixed p_91c (by kernel_rfl) (by kernel_rfl) (L := L_91c) (kp := false) (by kernel_rfl) (inn := inn_91c) (out := out_91c) (fun _ _ => rfl) (loopsL (l := []) (by kernel_rfl) trivial) (fun x y => by kernel_rfl)
noncomputable def O_915 : Orc := (orm c_935 (orm c_936 (orm c_91f (orm c_937 c_938))))
theorem okO_915 : OrcOk PR O_915 := (orm_ok ok_935 (orm_ok ok_936 (orm_ok ok_91f (orm_ok ok_937 ok_938))))
abbrev fa_915 : Fm := (.pair (.i .i64) (.pair (.i .u32) .unit))
abbrev ha_915 : List BF := []
abbrev fr_915 : Fm := (.i .u32)
abbrev hr_915 : List BF := []
noncomputable def L_915 : Lps := L0
def inn_915 : T fr_915 → TH hr_915 → Int := (fun z w => z)
def out_915 : Int → T fr_915 × TH hr_915 := fun r => (r, ())
noncomputable def F_915 (a0 : Int) (a1 : Int) : Option (Int) :=
 bif (a0 == (0:Int)) then
 (some a1)
 else
 bif (a0 == (1:Int)) then
 ((F_935 a1)).bind fun r0 =>
 bif r0 then
 (some (2143289344:Int))
 else
 ((F_91f a1 (0:Int))).bind fun r1 =>
 bif r1 then
 (some a1)
 else
 (some (0:Int))
 else
 bif (a0 == (2:Int)) then
 ((F_937 a1)).bind fun r2 =>
 (some r2)
 else
 bif (a0 == (3:Int)) then
 ((F_938 a1)).bind fun r3 =>
 (some r3)
 else
 (some (2143289344:Int))
noncomputable def G_915 : T fa_915 → TH ha_915 → Option (Int) := fun x y => F_915 x.1 x.2.1
noncomputable def c_915 : Orc := ent i_915 [] 0 (sp fa_915 ha_915 fr_915 hr_915 G_915 out_915)
theorem ok_915 : OrcOk PR c_915 := fnT okO_915 mixed p_915 (by kernel_rfl) (by kernel_rfl) (L := L_915) (kp := false) (by kernel_rfl) (inn := inn_915) (out := out_915) (fun _ _ => rfl) (loopsL (l := []) (by kernel_rfl) trivial) (fun x y => by kernel_rfl)
noncomputable def O_917 : Orc := (orm c_91f (orm c_937 (orm c_93c (orm c_922 (orm c_93d c_936)))))
theorem okO_917 : OrcOk PR O_917 := (orm_ok ok_91f (orm_ok ok_937 (orm_ok ok_93c (orm_ok ok_922 (orm_ok ok_93d ok_936)))))
abbrev fa_917 : Fm := (.pair (.i .i64) (.pair (.i .u32) .unit))
abbrev ha_917 : List BF := []
abbrev fr_917 : Fm := (.i .u32)
abbrev hr_917 : List BF := []
noncomputable def L_917 : Lps := L0
def inn_917 : T fr_917 → TH hr_917 → Int := (fun z w => z)
def out_917 : Int → T fr_917 × TH hr_917 := fun r => (r, ())
noncomputable def F_917 (a0 : Int) (a1 : Int) : Option (Int) :=
 bif (a0 == (0:Int)) then
 (some (1065353216:Int))
 else
 bif (a0 == (1:Int)) then
 ((F_91f a1 (0:Int))).bind fun r0 =>
 bif r0 then
 (some (1065353216:Int))
 else
 (some (0:Int))
 else
 bif (a0 == (2:Int)) then
 ((F_937 a1)).bind fun r1 =>
 ((F_93c r1 r1)).bind fun r2 =>
 ((F_922 (1065353216:Int) r2)).bind fun r3 =>
 (some r3)
 else
 bif (a0 == (3:Int)) then
 ((F_93d a1)).bind fun r4 =>
 (some r4)
 else
 (some (2143289344:Int))
noncomputable def G_917 : T fa_917 → TH ha_917 → Option (Int) := fun x y => F_917 x.1 x.2.1
noncomputable def c_917 : Orc := ent i_917 [] 0 (sp fa_917 ha_917 fr_917 hr_917 G_917 out_917)
theorem ok_917 : OrcOk PR c_917 := fnT okO_917 mixed p_917 (by kernel_rfl) (by kernel_rfl) (L := L_917) (kp := false) (by kernel_rfl) (inn := inn_917) (out := out_917) (fun _ _ => rfl) (loopsL (l := []) (by kernel_rfl) trivial) (fun x y => by kernel_rfl)
noncomputable def O_93e : Orc := orn
theorem okO_93e : OrcOk PR O_93e := (orn_ok _)
abbrev fa_93e : Fm := (.pair (.i .i64) .unit)
abbrev ha_93e : List BF := []
abbrev fr_93e : Fm := .b
abbrev hr_93e : List BF := []
noncomputable def L_93e : Lps := L0
def inn_93e : T fr_93e → TH hr_93e → Bool := (fun z w => z)
def out_93e : Bool → T fr_93e × TH hr_93e := fun r => (r, ())
noncomputable def F_93e (a0 : Int) : Option (Bool) :=
 bif (decide (a0 ≥ (0:Int))) then
 (some (decide (a0 ≤ (3:Int))))
 else
 (some false)
noncomputable def G_93e : T fa_93e → TH ha_93e → Option (Bool) := fun x y => F_93e x.1
noncomputable def c_93e : Orc := ent i_93e [] 0 (sp fa_93e ha_93e fr_93e hr_93e G_93e out_93e)
theorem ok_93e : OrcOk PR c_93e := fnT okO_93e mixed p_93e (by kernel_rfl) (by kernel_rfl) (L := L_93e) (kp := false) (by kernel_rfl) (inn := inn_93e) (out := out_93e) (fun _ _ => rfl) (loopsL (l := []) (by kernel_rfl) trivial) (fun x y => by kernel_rfl)
noncomputable def O_9f : Orc := c_925
theorem okO_9f : OrcOk PR O_9f := ok_925
abbrev fa_9f : Fm := (.pair (.i .i64) (.pair (.i .u32) .unit))
abbrev ha_9f : List BF := []
abbrev fr_9f : Fm := (.i .u32)
abbrev hr_9f : List BF := []
noncomputable def L_9f : Lps := L0
def inn_9f : T fr_9f → TH hr_9f → Int := (fun z w => z)
def out_9f : Int → T fr_9f × TH hr_9f := fun r => (r, ())
noncomputable def F_9f (a0 : Int) (a1 : Int) : Option (Int) :=
 ((F_925 (2:Int) a0 (0:Int) a1)).bind fun r0 =>
 (some r0.1)
noncomputable def G_9f : T fa_9f → TH ha_9f → Option (Int) := fun x y => F_9f x.1 x.2.1
noncomputable def c_9f : Orc := ent i_9f [] 0 (sp fa_9f ha_9f fr_9f hr_9f G_9f out_9f)
theorem ok_9f : OrcOk PR c_9f := fnT okO_9f mixed p_9f (by kernel_rfl) (by kernel_rfl) (L := L_9f) (kp := false) (by kernel_rfl) (inn := inn_9f) (out := out_9f) (fun _ _ => rfl) (loopsL (l := []) (by kernel_rfl) trivial) (fun x y => by kernel_rfl)
noncomputable def O_918 : Orc := (orm c_926 (orm c_93e (orm c_93f (orm c_915 c_9f))))
theorem okO_918 : OrcOk PR O_918 := (orm_ok ok_926 (orm_ok ok_93e (orm_ok ok_93f (orm_ok ok_915 ok_9f))))
abbrev fa_918 : Fm := (.pair (.i .i64) (.pair (.agg (.pair (.i .i64) (.pair (.i .i64) (.pair (.i .i64) (.pair (.si .u32) .unit))))) .unit))
abbrev ha_918 : List BF := []
abbrev fr_918 : Fm := (.tup (.pair (.agg (.pair (.i .i64) (.pair (.i .i64) (.pair (.i .i64) (.pair (.si .u32) .unit))))) (.pair (.i .i64) .unit)))
abbrev hr_918 : List BF := []
abbrev ff_918_0 : Fm := (.pair (.i .i64) (.us 2 (.cst (.ref 0 1 0) (.cst (.ref 1 1 0) (.us 1 (.cst (.ref 2 1 0) (.pair (.i .i64) (.us 39 .unit))))))))
abbrev hf_918_0 : List BF := [(.list 1 y_91 true (.pair (.i .i64) (.pair (.i .i64) (.pair (.i .i64) (.pair (.si .u32) .unit))))), (.list 1 y_91 true (.pair (.i .i64) (.pair (.i .i64) (.pair (.i .i64) (.cst .nils .unit))))), (.list 1 y_91 true (.pair (.i .i64) (.pair (.i .i64) (.pair (.i .i64) (.pair (.own 3 1 0 1) .unit))))), (.ints 1 y_92 true .u32)]
abbrev X_918_0 : Xs := (.one (.exit 0) [4, 6] (.us 4 (.cst (.ref 0 1 0) (.us 1 (.cst (.ref 1 1 0) (.us 40 .unit))))) [(.list 1 y_91 true (.pair (.i .i64) (.pair (.i .i64) (.pair (.i .i64) (.cst .nils .unit))))), (.list 1 y_91 true (.pair (.i .i64) (.pair (.i .i64) (.pair (.i .i64) (.pair (.own 2 1 0 1) .unit))))), (.ints 1 y_92 true .u32)])
abbrev S_918_0 : Type := T ff_918_0 × TH hf_918_0
abbrev E_918_0 : Type := TX X_918_0
noncomputable def LB_918_0 : Lps := L0
noncomputable def st_918_0 : StepT S_918_0 E_918_0 := fun R v kn ko =>
 let x0 : Int := v.2.1.2.2.1
 let x1 : List Int := v.2.1.2.2.2.1
 let x2 : Int := v.1.2.1
 let x3 : Int := v.1.1
 bif (decide (x2 < (((List.length x1) : Nat) : Int))) then
 ((F_93f (v.2.1.1, (v.2.1.2.1, (x0, ((List.take (List.length x1) x1), ())))) x2)).bind fun r4 =>
 ((F_915 x3 r4)).bind fun r5 =>
 ((F_9f x0 r5)).bind fun r6 =>
 bif (decide (((0:Int) ≤ x2) ∧ (x2 < ((v.2.2.2.1.2.2.2.1 : Nat) : Int)))) then
 bif (decide (((0:Nat) + ((Int.toNat x2) * (1:Nat))) < (List.length v.2.2.2.2.1))) then
 (kn ((x3, ((IntKind.wrap .i64 (x2 + (1:Int))), ())), ((v.2.1.1, (v.2.1.2.1, (x0, ((List.take (List.length x1) x1), ())))), (v.2.2.1, (v.2.2.2.1, ((List.set v.2.2.2.2.1 ((0:Nat) + ((Int.toNat x2) * (1:Nat))) r6), ()))))))
 else
 none
 else
 none
 else
 (ko ((), v.2.2))
noncomputable def ls_918_0 : St → LTr := (lsum ff_918_0 hf_918_0 X_918_0 Prod.mk id st_918_0 (hd [] [] [0, 3, 4, 6, 7] 0))
theorem lp_918_0 : LoopOk PR 0 (lpN f_918 0) ls_918_0 := loopT okO_918 mixed (L := LB_918_0) (d := 1) (bs := []) (ks := [0, 3, 4, 6, 7]) (loopsL (l := []) (by kernel_rfl) trivial) (by kernel_rfl) (inS := Prod.mk) (outS := id) (fun _ _ => rfl) (inX := id) (outX := id) (fun _ => rfl) (fun v R kn ko => by kernel_rfl) (hd_wk [] [] [0, 3, 4, 6, 7] 0)
noncomputable def L_918 : Lps := (lpB 8 (.by_ ls_918_0) L0)
def inn_918 : T fr_918 → TH hr_918 → (Int × Int × Int × List Int × Unit) × Int × Unit := (fun z w => z)
def out_918 : (Int × Int × Int × List Int × Unit) × Int × Unit → T fr_918 × TH hr_918 := fun r => (r, ())
noncomputable def F_918 (a0 : Int) (a1 : Int × Int × Int × List Int × Unit) : Option ((Int × Int × Int × List Int × Unit) × Int × Unit) :=
 let x0 : Int := a1.2.2.1
 let x1 : List Int := a1.2.2.2.1
 let x2 : Nat := (List.length x1)
 let x3 : Nat := (Int.toNat ((x2 : Nat) : Int))
 ((F_926 (a1.1, (a1.2.1, (x0, ((List.take x2 x1), ())))))).bind fun r4 =>
 bif (!r4) then
 (some (((0:Int), ((0:Int), ((0:Int), ([], ())))), ((21:Int), ())))
 else
 ((F_93e a0)).bind fun r5 =>
 bif (!r5) then
 (some (((0:Int), ((0:Int), ((0:Int), ([], ())))), ((22:Int), ())))
 else
 bif (decide (((0:Int) ≤ ((x2 : Nat) : Int)) ∧ (((x2 : Nat) : Int) ≤ (1073741824:Int)))) then
 ((lim st_918_0 ((a0, ((0:Int), ())), ((a1.1, (a1.2.1, (x0, ((List.take x2 x1), ())))), (((0:Int), ((0:Int), ((0:Int), ()))), ((a1.1, (a1.2.1, (x0, (x3, ())))), ((List.replicate x3 (0:Int)), ()))))))).bind fun r6 =>
 (some ((r6.2.2.1.1, (r6.2.2.1.2.1, (r6.2.2.1.2.2.1, ((List.take r6.2.2.1.2.2.2.1 (List.drop (0:Nat) r6.2.2.2.1)), ())))), ((0:Int), ())))
 else
 none
noncomputable def G_918 : T fa_918 → TH ha_918 → Option ((Int × Int × Int × List Int × Unit) × Int × Unit) := fun x y => F_918 x.1 x.2.1
noncomputable def c_918 : Orc := ent i_918 [] 0 (sp fa_918 ha_918 fr_918 hr_918 G_918 out_918)
theorem ok_918 : OrcOk PR c_918 := fnT okO_918 mixed p_918 (by kernel_rfl) (by kernel_rfl) (L := L_918) (kp := false) (by kernel_rfl) (inn := inn_918) (out := out_918) (fun _ _ => rfl) (loopsL (l := [((lpN f_918 0), ls_918_0)]) (by kernel_rfl) ⟨lp_918_0, trivial⟩) (fun x y => by kernel_rfl)
noncomputable def O_91a : Orc := (orm c_926 (orm c_93e (orm c_93f (orm c_917 (orm c_93c c_9f)))))
theorem okO_91a : OrcOk PR O_91a := (orm_ok ok_926 (orm_ok ok_93e (orm_ok ok_93f (orm_ok ok_917 (orm_ok ok_93c ok_9f)))))
abbrev fa_91a : Fm := (.pair (.i .i64) (.pair (.agg (.pair (.i .i64) (.pair (.i .i64) (.pair (.i .i64) (.pair (.si .u32) .unit))))) (.pair (.agg (.pair (.i .i64) (.pair (.i .i64) (.pair (.i .i64) (.pair (.si .u32) .unit))))) .unit)))
abbrev ha_91a : List BF := []
abbrev fr_91a : Fm := (.tup (.pair (.agg (.pair (.i .i64) (.pair (.i .i64) (.pair (.i .i64) (.pair (.si .u32) .unit))))) (.pair (.i .i64) .unit)))
abbrev hr_91a : List BF := []
abbrev ff_91a_0 : Fm := (.pair (.i .i64) (.us 3 (.cst (.ref 0 1 0) (.cst (.ref 1 1 0) (.cst (.ref 2 1 0) (.us 1 (.cst (.ref 3 1 0) (.pair (.i .i64) (.us 62 .unit)))))))))
abbrev hf_91a_0 : List BF := [(.list 1 y_91 true (.pair (.i .i64) (.pair (.i .i64) (.pair (.i .i64) (.pair (.si .u32) .unit))))), (.list 1 y_91 true (.pair (.i .i64) (.pair (.i .i64) (.pair (.i .i64) (.pair (.si .u32) .unit))))), (.list 1 y_91 true (.pair (.i .i64) (.pair (.i .i64) (.pair (.i .i64) (.cst .nils .unit))))), (.list 1 y_91 true (.pair (.i .i64) (.pair (.i .i64) (.pair (.i .i64) (.pair (.own 4 1 0 1) .unit))))), (.ints 1 y_92 true .u32)]
abbrev X_91a_0 : Xs := (.one (.exit 0) [6, 8] (.us 6 (.cst (.ref 0 1 0) (.us 1 (.cst (.ref 1 1 0) (.us 63 .unit))))) [(.list 1 y_91 true (.pair (.i .i64) (.pair (.i .i64) (.pair (.i .i64) (.cst .nils .unit))))), (.list 1 y_91 true (.pair (.i .i64) (.pair (.i .i64) (.pair (.i .i64) (.pair (.own 2 1 0 1) .unit))))), (.ints 1 y_92 true .u32)])
abbrev S_91a_0 : Type := T ff_91a_0 × TH hf_91a_0
abbrev E_91a_0 : Type := TX X_91a_0
noncomputable def LB_91a_0 : Lps := L0
noncomputable def st_91a_0 : StepT S_91a_0 E_91a_0 := fun R v kn ko =>
 let x0 : Int := v.2.2.1.2.2.1
 let x1 : List Int := v.2.2.1.2.2.2.1
 let x2 : Int := v.1.2.1
 let x3 : List Int := v.2.1.2.2.2.1
 let x4 : Int := v.1.1
 bif (decide (x2 < (((List.length x1) : Nat) : Int))) then
 ((F_93f (v.2.2.1.1, (v.2.2.1.2.1, (x0, ((List.take (List.length x1) x1), ())))) x2)).bind fun r5 =>
 ((F_93f (v.2.1.1, (v.2.1.2.1, (v.2.1.2.2.1, ((List.take (List.length x3) x3), ())))) x2)).bind fun r6 =>
 ((F_917 x4 r6)).bind fun r7 =>
 ((F_93c r5 r7)).bind fun r8 =>
 ((F_9f x0 r8)).bind fun r9 =>
 bif (decide (((0:Int) ≤ x2) ∧ (x2 < ((v.2.2.2.2.1.2.2.2.1 : Nat) : Int)))) then
 bif (decide (((0:Nat) + ((Int.toNat x2) * (1:Nat))) < (List.length v.2.2.2.2.2.1))) then
 (kn ((x4, ((IntKind.wrap .i64 (x2 + (1:Int))), ())), ((v.2.1.1, (v.2.1.2.1, (v.2.1.2.2.1, ((List.take (List.length x3) x3), ())))), ((v.2.2.1.1, (v.2.2.1.2.1, (x0, ((List.take (List.length x1) x1), ())))), (v.2.2.2.1, (v.2.2.2.2.1, ((List.set v.2.2.2.2.2.1 ((0:Nat) + ((Int.toNat x2) * (1:Nat))) r9), ())))))))
 else
 none
 else
 none
 else
 (ko ((), v.2.2.2))
noncomputable def ls_91a_0 : St → LTr := (lsum ff_91a_0 hf_91a_0 X_91a_0 Prod.mk id st_91a_0 (hd [] [] [0, 4, 5, 6, 8, 9] 0))
theorem lp_91a_0 : LoopOk PR 0 (lpN f_91a 0) ls_91a_0 := loopT okO_91a mixed (L := LB_91a_0) (d := 1) (bs := []) (ks := [0, 4, 5, 6, 8, 9]) (loopsL (l := []) (by kernel_rfl) trivial) (by kernel_rfl) (inS := Prod.mk) (outS := id) (fun _ _ => rfl) (inX := id) (outX := id) (fun _ => rfl) (fun v R kn ko => by kernel_rfl) (hd_wk [] [] [0, 4, 5, 6, 8, 9] 0)
noncomputable def L_91a : Lps := (lpB 8 (.by_ ls_91a_0) L0)
def inn_91a : T fr_91a → TH hr_91a → (Int × Int × Int × List Int × Unit) × Int × Unit := (fun z w => z)
def out_91a : (Int × Int × Int × List Int × Unit) × Int × Unit → T fr_91a × TH hr_91a := fun r => (r, ())
noncomputable def F_91a (a0 : Int) (a1 : Int × Int × Int × List Int × Unit) (a2 : Int × Int × Int × List Int × Unit) : Option ((Int × Int × Int × List Int × Unit) × Int × Unit) :=
 let x0 : Int := a1.2.2.1
 let x1 : List Int := a1.2.2.2.1
 let x2 : Int := a2.2.2.1
 let x3 : List Int := a2.2.2.2.1
 let x4 : Nat := (List.length x3)
 let x5 : Nat := (Int.toNat ((x4 : Nat) : Int))
 ((F_926 (a1.1, (a1.2.1, (x0, ((List.take (List.length x1) x1), ())))))).bind fun r6 =>
 bif (!r6) then
 (some (((0:Int), ((0:Int), ((0:Int), ([], ())))), ((21:Int), ())))
 else
 ((F_926 (a2.1, (a2.2.1, (x2, ((List.take x4 x3), ())))))).bind fun r7 =>
 bif (!r7) then
 (some (((0:Int), ((0:Int), ((0:Int), ([], ())))), ((21:Int), ())))
 else
 bif (a1.1 != a2.1) then
 (some (((0:Int), ((0:Int), ((0:Int), ([], ())))), ((21:Int), ())))
 else
 bif (a1.2.1 != a2.2.1) then
 (some (((0:Int), ((0:Int), ((0:Int), ([], ())))), ((21:Int), ())))
 else
 ((F_93e a0)).bind fun r8 =>
 bif (!r8) then
 (some (((0:Int), ((0:Int), ((0:Int), ([], ())))), ((22:Int), ())))
 else
 bif (decide (((0:Int) ≤ ((x4 : Nat) : Int)) ∧ (((x4 : Nat) : Int) ≤ (1073741824:Int)))) then
 ((lim st_91a_0 ((a0, ((0:Int), ())), ((a1.1, (a1.2.1, (x0, ((List.take (List.length x1) x1), ())))), ((a2.1, (a2.2.1, (x2, ((List.take x4 x3), ())))), (((0:Int), ((0:Int), ((0:Int), ()))), ((a2.1, (a2.2.1, (x2, (x5, ())))), ((List.replicate x5 (0:Int)), ())))))))).bind fun r9 =>
 (some ((r9.2.2.1.1, (r9.2.2.1.2.1, (r9.2.2.1.2.2.1, ((List.take r9.2.2.1.2.2.2.1 (List.drop (0:Nat) r9.2.2.2.1)), ())))), ((0:Int), ())))
 else
 none
noncomputable def G_91a : T fa_91a → TH ha_91a → Option ((Int × Int × Int × List Int × Unit) × Int × Unit) := fun x y => F_91a x.1 x.2.1 x.2.2.1
noncomputable def c_91a : Orc := ent i_91a [] 0 (sp fa_91a ha_91a fr_91a hr_91a G_91a out_91a)
theorem ok_91a : OrcOk PR c_91a := fnT okO_91a mixed p_91a (by kernel_rfl) (by kernel_rfl) (L := L_91a) (kp := false) (by kernel_rfl) (inn := inn_91a) (out := out_91a) (fun _ _ => rfl) (loopsL (l := [((lpN f_91a 0), ls_91a_0)]) (by kernel_rfl) ⟨lp_91a_0, trivial⟩) (fun x y => by kernel_rfl)
noncomputable def O_9bb : Orc := c_959
theorem okO_9bb : OrcOk PR O_9bb := ok_959
abbrev fa_9bb : Fm := (.pair (.i .i64) (.pair (.i .i64) (.pair (.i .i64) .unit)))
abbrev ha_9bb : List BF := []
abbrev fr_9bb : Fm := (.agg (.pair (.i .i64) (.pair (.i .i64) (.pair (.i .i64) (.pair (.own 0 1 0 1) .unit)))))
abbrev hr_9bb : List BF := [(.ints 1 y_92 true .u32)]
noncomputable def L_9bb : Lps := L0
def inn_9bb : T fr_9bb → TH hr_9bb → (Int × Int × Int × Nat × Unit) × (List Int × Unit) := Prod.mk
def out_9bb : (Int × Int × Int × Nat × Unit) × (List Int × Unit) → T fr_9bb × TH hr_9bb := id
noncomputable def F_9bb (a0 : Int) (a1 : Int) (a2 : Int) : Option ((Int × Int × Int × Nat × Unit) × (List Int × Unit)) :=
 let x0 : Int := (bif (decide ((IntKind.wrap .i64 ((mn (mx a0 (0:Int)) (4096:Int)) * (mn (mx a1 (0:Int)) (4096:Int)))) > (262144:Int))) then (0:Int) else (mn (mx a0 (0:Int)) (4096:Int)))
 let x1 : Int := (bif (decide ((IntKind.wrap .i64 ((mn (mx a0 (0:Int)) (4096:Int)) * (mn (mx a1 (0:Int)) (4096:Int)))) > (262144:Int))) then (0:Int) else (mn (mx a1 (0:Int)) (4096:Int)))
 let x2 : Nat := (Int.toNat (IntKind.wrap .i64 (x0 * x1)))
 ((F_959 a2)).bind fun r3 =>
 bif (decide (((0:Int) ≤ (IntKind.wrap .i64 (x0 * x1))) ∧ ((IntKind.wrap .i64 (x0 * x1)) ≤ (1073741824:Int)))) then
 (some ((x0, (x1, ((bif (!r3) then (2:Int) else a2), (x2, ())))), ((List.replicate x2 (0:Int)), ())))
 else
 none
noncomputable def G_9bb : T fa_9bb → TH ha_9bb → Option ((Int × Int × Int × Nat × Unit) × (List Int × Unit)) := fun x y => F_9bb x.1 x.2.1 x.2.2.1
noncomputable def c_9bb : Orc := ent i_946 [] 1 (sp fa_9bb ha_9bb fr_9bb hr_9bb G_9bb out_9bb)
theorem ok_9bb : OrcOk PR c_9bb := fnT okO_9bb mixed p_946 (by kernel_rfl) (by kernel_rfl) (L := L_9bb) (kp := true) (by kernel_rfl) (inn := inn_9bb) (out := out_9bb) (fun _ _ => rfl) (loopsL (l := []) (by kernel_rfl) trivial) (fun x y => by kernel_rfl)
noncomputable def O_91d : Orc := (orm c_921 (orm c_920 (orm c_91e c_9bb)))
theorem okO_91d : OrcOk PR O_91d := (orm_ok ok_921 (orm_ok ok_920 (orm_ok ok_91e ok_9bb)))
abbrev fa_91d : Fm := (.pair (.i .i64) (.pair (.i .i64) (.pair (.i .u32) (.pair (.i .u64) (.pair (.i .u32) .unit)))))
abbrev ha_91d : List BF := []
abbrev fr_91d : Fm := (.agg (.pair (.i .i64) (.pair (.i .i64) (.pair (.i .i64) (.pair (.si .u32) .unit)))))
abbrev hr_91d : List BF := []
abbrev ff_91d_0 : Fm := (.us 2 (.pair (.i .u32) (.pair (.i .u64) (.pair (.i .u32) (.us 5 (.cst (.ref 0 1 0) (.cst (.ref 1 1 0) (.pair (.i .u32) (.pair (.i .i64) (.us 29 .unit))))))))))
abbrev hf_91d_0 : List BF := [(.list 1 y_91 true (.pair (.i .i64) (.pair (.i .i64) (.pair (.i .i64) (.cst .nils .unit))))), (.list 1 y_91 true (.pair (.i .i64) (.pair (.i .i64) (.pair (.i .i64) (.pair (.own 2 1 0 1) .unit))))), (.ints 1 y_92 true .u32)]
abbrev X_91d_0 : Xs := (.one (.exit 0) [10, 11] (.us 10 (.cst (.ref 0 1 0) (.cst (.ref 1 1 0) (.us 31 .unit)))) [(.list 1 y_91 true (.pair (.i .i64) (.pair (.i .i64) (.pair (.i .i64) (.cst .nils .unit))))), (.list 1 y_91 true (.pair (.i .i64) (.pair (.i .i64) (.pair (.i .i64) (.pair (.own 2 1 0 1) .unit))))), (.ints 1 y_92 true .u32)])
abbrev S_91d_0 : Type := T ff_91d_0 × TH hf_91d_0
abbrev E_91d_0 : Type := TX X_91d_0
noncomputable def LB_91d_0 : Lps := L0
noncomputable def st_91d_0 : StepT S_91d_0 E_91d_0 := fun R v kn ko =>
 let x0 : Int := v.1.2.1
 let x1 : Int := v.1.2.2.1
 let x2 : Int := v.1.2.2.2.2.1
 let x3 : Int := v.1.2.2.2.1
 bif (decide (x2 < ((v.2.2.1.2.2.2.1 : Nat) : Int))) then
 ((F_91e x0 x1 (IntKind.wrap .u64 x2))).bind fun r4 =>
 bif (decide (r4 ≥ v.1.1)) then
 bif (decide (((0:Int) ≤ x2) ∧ (x2 < ((v.2.2.1.2.2.2.1 : Nat) : Int)))) then
 bif (decide (((0:Nat) + ((Int.toNat x2) * (1:Nat))) < (List.length v.2.2.2.1))) then
 (kn ((v.1.1, (x0, (x1, (x3, ((IntKind.wrap .i64 (x2 + (1:Int))), ()))))), (v.2.1, (v.2.2.1, ((List.set v.2.2.2.1 ((0:Nat) + ((Int.toNat x2) * (1:Nat))) x3), ())))))
 else
 none
 else
 none
 else
 (kn ((v.1.1, (x0, (x1, (x3, ((IntKind.wrap .i64 (x2 + (1:Int))), ()))))), v.2))
 else
 (ko ((), v.2))
noncomputable def ls_91d_0 : St → LTr := (lsum ff_91d_0 hf_91d_0 X_91d_0 Prod.mk id st_91d_0 (hd [] [] [2, 3, 4, 10, 11, 12, 13] 0))
theorem lp_91d_0 : LoopOk PR 0 (lpN f_91d 0) ls_91d_0 := loopT okO_91d mixed (L := LB_91d_0) (d := 1) (bs := []) (ks := [2, 3, 4, 10, 11, 12, 13]) (loopsL (l := []) (by kernel_rfl) trivial) (by kernel_rfl) (inS := Prod.mk) (outS := id) (fun _ _ => rfl) (inX := id) (outX := id) (fun _ => rfl) (fun v R kn ko => by kernel_rfl) (hd_wk [] [] [2, 3, 4, 10, 11, 12, 13] 0)
noncomputable def L_91d : Lps := (lpB 5 (.by_ ls_91d_0) L0)
def inn_91d : T fr_91d → TH hr_91d → Int × Int × Int × List Int × Unit := (fun z w => z)
def out_91d : Int × Int × Int × List Int × Unit → T fr_91d × TH hr_91d := fun r => (r, ())
noncomputable def F_91d (a0 : Int) (a1 : Int) (a2 : Int) (a3 : Int) (a4 : Int) : Option (Int × Int × Int × List Int × Unit) :=
 ((F_9bb a0 a1 (2:Int))).bind fun r0 =>
 ((F_921 (4294967296:Int))).bind fun r1 =>
 ((F_921 (IntKind.wrap .i64 ((4294967296:Int) - (IntKind.wrap .i64 a2))))).bind fun r2 =>
 ((F_920 r1 r2)).bind fun r3 =>
 ((lim st_91d_0 ((a2, (a3, (a4, (r3, ((0:Int), ()))))), (((0:Int), ((0:Int), ((0:Int), ()))), r0)))).bind fun r4 =>
 (some (r4.2.2.1.1, (r4.2.2.1.2.1, (r4.2.2.1.2.2.1, ((List.take r4.2.2.1.2.2.2.1 (List.drop (0:Nat) r4.2.2.2.1)), ())))))
noncomputable def G_91d : T fa_91d → TH ha_91d → Option (Int × Int × Int × List Int × Unit) := fun x y => F_91d x.1 x.2.1 x.2.2.1 x.2.2.2.1 x.2.2.2.2.1
noncomputable def c_91d : Orc := ent i_91d [] 0 (sp fa_91d ha_91d fr_91d hr_91d G_91d out_91d)
theorem ok_91d : OrcOk PR c_91d := fnT okO_91d mixed p_91d (by kernel_rfl) (by kernel_rfl) (L := L_91d) (kp := false) (by kernel_rfl) (inn := inn_91d) (out := out_91d) (fun _ _ => rfl) (loopsL (l := [((lpN f_91d 0), ls_91d_0)]) (by kernel_rfl) ⟨lp_91d_0, trivial⟩) (fun x y => by kernel_rfl)
set_option maxHeartbeats 4000000
def valS (k x : Int) : Int := if k = 0 then x else if k = 1 then relu x else if k = 2 then tanS x else if k = 3 then gelS x else 2143289344
def sloV (k x : Int) : Int := if k = 0 then 1065353216 else if k = 1 then (if lt 2 0 x then 1065353216 else 0) else if k = 2 then subf 1065353216 (mulf (tanS x) (tanS x)) else if k = 3 then sloS x else 2143289344
theorem val_w (k : Int) {x : Int} (h : w32 x) : w32 (valS k x) := by
  unfold valS
  split
  · exact h
  split
  · exact relu_w h
  split
  · exact tanh_w h
  split
  · exact mulf_w _ _
  · exact wlit rfl
theorem sloV_w (k : Int) {x : Int} (h : w32 x) : w32 (sloV k x) := by
  unfold sloV
  split
  · exact wlit rfl
  split
  · split
    · exact wlit rfl
    · exact w0
  split
  · exact subf_w _ _
  split
  · exact fma_w _ _ _
  · exact wlit rfl
theorem val_eq (k : Int) {x : Int} (h : w32 x) : F_910 k x = some (valS k x) := by
  unfold F_910 valS relu
  rw [fisnan_eq h, fabove_eq h w0, tanh_eq h, gelu_eq h]
  simp only [Option.bind_some, bif_eq]
  split
  · rfl
  split
  · cases nan 2 x <;> cases lt 2 0 x <;> rfl
  split
  · rfl
  split <;> rfl
theorem slo_eq (k : Int) {x : Int} (h : w32 x) : F_916 k x = some (sloV k x) := by
  unfold F_916 sloV
  rw [fabove_eq h w0, tanh_eq h, slope_eq h]
  simp only [Option.bind_some]
  rw [fmul_eq (tanh_w h) (tanh_w h)]
  simp only [Option.bind_some]
  rw [fsub_eq (wlit rfl) (mulf_w _ _)]
  simp only [Option.bind_some, bif_eq]
  split
  · rfl
  split
  · cases lt 2 0 x <;> rfl
  split
  · rfl
  split <;> rfl
theorem valr_eq (k : Int) {x : Int} (h : w32 x) : F_915 k x = some (valS k x) := by
  unfold F_915 valS relu
  rw [rnan_eq h, rabove_eq h w0, rtanh_eq h, rgelu_eq h]
  simp only [Option.bind_some, bif_eq]
  split
  · rfl
  split
  · cases nan 2 x <;> cases lt 2 0 x <;> rfl
  split
  · rfl
  split <;> rfl
theorem slor_eq (k : Int) {x : Int} (h : w32 x) : F_917 k x = some (sloV k x) := by
  unfold F_917 sloV
  rw [rabove_eq h w0, rtanh_eq h, rslope_eq h]
  simp only [Option.bind_some]
  rw [rmul_eq (tanh_w h) (tanh_w h)]
  simp only [Option.bind_some]
  rw [rsub_eq (wlit rfl) (mulf_w _ _)]
  simp only [Option.bind_some, bif_eq]
  split
  · rfl
  split
  · cases lt 2 0 x <;> rfl
  split
  · rfl
  split <;> rfl
abbrev gl (l : List Int) (i : Nat) : Int := l.getD i 0
theorem rc_bd {R C : Nat} (hR : R ≤ 4096) (hC : C ≤ 4096) : R * C ≤ 16777216 := Nat.mul_le_mul hR hC
theorem nums_eq (X Y : List Int) (hn : X.length < 4611686018427387904) : F_924 X Y = some (decide (X = Y)) := by
  unfold F_924
  simp only [List.take_length]
  rw [bif_ne]
  by_cases h : X.length = Y.length
  · rw [if_pos (by omega)]
    have step : ∀ i, i < X.length → gl X i = gl Y i → ∀ R kn ko, st_924_0 R ((X, (Y, ((i : Int), ()))), ()) kn ko = kn ((X, (Y, (((i + 1 : Nat) : Int), ()))), ()) := by
      intro i hi he R kn ko
      unfold st_924_0
      dsimp only
      simp only [List.take_length, bif_dec, Int.toNat_natCast]
      rw [if_pos (by omega), if_pos (by omega), if_pos (by omega)]
      have : (X.getD i 0 != Y.getD i 0) = false := by simpa [gl] using he
      rw [this, wi64 (by omega), show ((i + 1 : Nat) : Int) = (i : Int) + 1 by omega]; rfl
    rcases first_or (fun i => gl X i != gl Y i) X.length with k | ⟨k, h1, h2, h3⟩
    · have := lim_seq (st := st_924_0) (fun i => ((X, (Y, ((i : Int), ()))), ())) (b := Sum.inl ((), ())) X.length
        (fun i hi R kn ko => step i hi (by simpa using k i hi) R kn ko)
        (fun R kn ko => by
          unfold st_924_0
          dsimp only
          simp only [bif_dec]
          rw [if_neg (by omega)])
      have e : lim st_924_0 ((X, (Y, ((0 : Int), ()))), ()) = _ := this
      rw [e]
      have he : X = Y := by
        apply List.ext_getElem h
        intro i h1 h2
        have := k i h1
        have q : gl X i = gl Y i := by simpa using this
        unfold gl at q
        rwa [gtd h1, gtd h2] at q
      rw [decide_eq_true he]; rfl
    · have := lim_seq (st := st_924_0) (fun i => ((X, (Y, ((i : Int), ()))), ())) (b := Sum.inr ((false, ()), ())) k
        (fun i hi R kn ko => step i (by omega) (by simpa using h2 i hi) R kn ko)
        (fun R kn ko => by
          unfold st_924_0
          dsimp only
          simp only [bif_dec, Int.toNat_natCast]
          rw [if_pos (by omega), if_pos (by omega), if_pos (by omega)]
          have : (X.getD k 0 != Y.getD k 0) = true := h3
          rw [this]; rfl)
      have e : lim st_924_0 ((X, (Y, ((0 : Int), ()))), ()) = _ := this
      rw [e]
      have he : X ≠ Y := by intro q; rw [q] at h3; simp at h3
      rw [decide_eq_false he]; rfl
  · rw [if_neg (by omega)]
    have : X ≠ Y := fun q => h (by rw [q])
    rw [decide_eq_false this]
theorem tens_eq (a b : TsT) (hn : a.2.2.2.1.length < 4611686018427387904) : F_91b a b = some (decide (a = b)) := by
  obtain ⟨a1, a2, a3, a4, ⟨⟩⟩ := a
  obtain ⟨b1, b2, b3, b4, ⟨⟩⟩ := b
  unfold F_91b
  dsimp only
  simp only [List.take_length, bif_eq]
  rw [nums_eq a4 b4 hn]
  by_cases h1 : a1 = b1
  · by_cases h2 : a2 = b2
    · by_cases h3 : a3 = b3
      · rw [if_pos h1, if_pos h2, if_pos h3]; subst h1; subst h2; subst h3; simp
      · rw [if_pos h1, if_pos h2, if_neg h3]; simp [h3]
    · rw [if_pos h1, if_neg h2]; simp [h2]
  · rw [if_neg h1]; simp [h1]
theorem right_mk {R C : Nat} {f : Int} {l : List Int} (hR : R ≤ 4096) (hC : C ≤ 4096) (hl : l.length = R * C) (hf : knownS f = true) (ha : l.all (fits f) = true) : rightS ((R : Int), (C : Int), f, l, ()) = true := by
  unfold rightS
  simp only [Bool.and_eq_true, decide_eq_true_eq]
  refine ⟨⟨by omega, by omega, by omega, by omega⟩, hf, ?_, ha⟩
  rw [hl]; simp
end Go.Proofs.YtfpjkmgfkaoapaaGreat.VI
