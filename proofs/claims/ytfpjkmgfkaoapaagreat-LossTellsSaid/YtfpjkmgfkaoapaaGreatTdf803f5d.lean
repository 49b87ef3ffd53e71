import Derived.Test.YtfpjkmgfkaoapaaGreatT76e3b23a
namespace Go.Proofs.YtfpjkmgfkaoapaaGreat.VI
set_option linter.unusedVariables false
set_option linter.unusedSimpArgs false
set_option maxRecDepth 100000
set_option maxHeartbeats 8000000
theorem rfma_eq {a b c : Int} (ha : w32 a) (hb : w32 b) (hc : w32 c) : F_93b a b c = some (fma a b c) := by
  unfold F_93b; rw [fmar_eq 2 0 ha hb hc]; rfl
theorem tor_eq (f g mode : Int) {a : Int} (ha : w32 a) : F_91b f g mode a = some (toS f g mode a) := by
  have xa := xp_bd f a
  unfold F_91b toS
  rw [nans_eq f [a] (by simp) (by simpa using ha), nanr_w, infr_c f ha, negr_eq f ha, unpackr_eq f ha]
  simp only [Option.bind_some, List.any_cons, List.any_nil, Bool.or_false, infr_eq]
  rw [packr_eq g mode _ _ (sig_w64 f a), show min (max (xp f a) (-10000)) 10000 = xp f a by omega]
  cases nan f a <;> cases inff f a <;> rfl
theorem mulr_eq (f mode : Int) {a b : Int} (ha : w32 a) (hb : w32 b) : F_959 f mode a b = some (mulS f mode a b) := by
  have sm := sig_mul f a b
  have xa := xp_bd f a
  have xb := xp_bd f b
  have w1 : IntKind.i64.wrap (xp f a + xp f b) = xp f a + xp f b := wi64 (by omega)
  have w2 : IntKind.u64.wrap (sig f a * sig f b) = sig f a * sig f b := wu64 (by have := sm.1; omega)
  have hp := packr_eq f mode (!(sg f a == sg f b)) (xp f a + xp f b) sm.1 false
  rw [show min (max (xp f a + xp f b) (-10000)) 10000 = xp f a + xp f b by omega] at hp
  unfold F_959 mulS
  simp only [nans_eq f [a, b] (by simp) (by simpa using ⟨ha, hb⟩), zeror_eq f ha, zeror_eq f hb, infr_c f ha, infr_c f hb, negr_eq f ha, negr_eq f hb, nanr_w, infr_eq, unpackr_eq f ha, unpackr_eq f hb, Option.bind_some, List.any_cons, List.any_nil, Bool.or_false, w1, w2, hp]
  generalize pk f mode (!(sg f a == sg f b)) (xp f a + xp f b) (sig f a * sig f b) false = W
  rcases cls f a with ⟨a1, a3, a4⟩ | ⟨a1, a2, a3, a4⟩ | ⟨a1, a2, a3, a4⟩ | ⟨a1, a2, a3, a4⟩ <;> rcases cls f b with ⟨b1, b3, b4⟩ | ⟨b1, b2, b3, b4⟩ | ⟨b1, b2, b3, b4⟩ | ⟨b1, b2, b3, b4⟩ <;> simp only [a1, a3, a4, b1, b3, b4] <;> rfl
theorem zero_bits (f : Int) {a : Int} (ha : w32 a) (h : zr f a = true) : a % (2 * TT f) = sgn f (sg f a) := by
  have e : a % TT f = 0 := by unfold zr at h; simpa using h
  have s := sg_iff f a ha.1
  have b := mod_bd f a
  unfold sgn
  cases hs : sg f a
  · rw [hs] at s; simp at s ⊢; omega
  · have := s.1 hs; simp; omega
theorem addr_eq (f mode : Int) {a b : Int} (ha : w32 a) (hb : w32 b) : F_969 f mode a b = some (addS f mode a b) := by
  have xa := xp_bd f a
  have xb := xp_bd f b
  obtain ⟨L, K, hL, hK, lL, lK, ht⟩ := rsum_eq f mode (sg f a) (sg f b) (N := sig f a) (M := sig f b) (sig_48 f a) (sig_48 f b) (show -298 ≤ xp f a ∧ xp f a ≤ 260 by omega) (show -298 ≤ xp f b ∧ xp f b ≤ 260 by omega)
  have hst := sum_tot f mode (sg f a) (sg f b) (e := xp f a) (d := xp f b) (sig_48 f a).1 (sig_48 f b).1
  have hfin : nan f a = false → inff f a = false → nan f b = false → inff f b = false →
      sumS f mode (sg f a) (xp f a) (sig f a) (sg f b) (xp f b) (sig f b) = bif zr f a && (zr f b && (sg f a == sg f b)) then (sgn f (sg f a), EXC0, ()) else totS f mode (sv (sg f a) (sig f a * 2 ^ (xp f a + 298).toNat) + sv (sg f b) (sig f b * 2 ^ (xp f b + 298).toNat)) := by
    intro a1 a4 b1 b4
    rw [hst]
    have ea := sig_zero f a a1 a4
    have eb := sig_zero f b b1 b4
    by_cases h : sig f a = 0 ∧ sig f b = 0 ∧ sg f a = sg f b
    · rw [if_pos h, ea.1 h.1, eb.1 h.2.1, h.2.2]; simp
    · rw [if_neg h]
      have : (zr f a && (zr f b && (sg f a == sg f b))) = false := by
        apply Bool.eq_false_iff.2; intro k; apply h
        simp only [Bool.and_eq_true, beq_iff_eq] at k
        exact ⟨ea.2 k.1, eb.2 k.2.1, k.2.2⟩
      rw [this]; rfl
  have ia := inf_bits f ha
  have ib := inf_bits f hb
  have za := zero_bits f ha
  unfold F_969 addS
  simp only [nans_eq f [a, b] (by simp) (by simpa using ⟨ha, hb⟩), zeror_eq f ha, zeror_eq f hb, infr_c f ha, infr_c f hb, negr_eq f ha, negr_eq f hb, nanr_w, infr_eq, maskr_eq, unpackr_eq f ha, unpackr_eq f hb, Option.bind_some, List.any_cons, List.any_nil, Bool.or_false, hL, hK, len10 lL, len10 lK, ht, and_TT f ha.1 ha.2, and_TT f hb.1 hb.2]
  generalize totS f mode _ = W at *
  generalize sumS f mode _ _ _ _ _ _ = SW at *
  rcases cls f a with ⟨a1, a3, a4⟩ | ⟨a1, a2, a3, a4⟩ | ⟨a1, a2, a3, a4⟩ | ⟨a1, a2, a3, a4⟩ <;> rcases cls f b with ⟨b1, b3, b4⟩ | ⟨b1, b2, b3, b4⟩ | ⟨b1, b2, b3, b4⟩ | ⟨b1, b2, b3, b4⟩ <;> simp only [a1, a3, a4, b1, b3, b4, cond_true, cond_false, Bool.or_true, Bool.true_or, Bool.or_false, Bool.false_or, Bool.and_true, Bool.and_false, Bool.true_and, Bool.false_and, if_true, if_false, Bool.false_eq_true] at hfin ⊢
  all_goals first
    | rfl
    | (rw [ia a4]; done)
    | (rw [ib b4]; done)
    | (rw [ia a4]; rfl)
    | (rw [ib b4]; rfl)
    | (rw [hfin trivial trivial trivial trivial]; done)
    | (rw [ia a4]; cases sg f a <;> cases sg f b <;> rfl)
    | (rw [hfin trivial trivial trivial trivial, za a3]; cases (sg f a == sg f b) <;> rfl)
    | (rw [hfin trivial trivial trivial trivial]; rfl)
noncomputable def O_98f : Orc := (orm c_93f (orm c_973 c_974))
theorem okO_98f : OrcOk PR O_98f := (orm_ok ok_93f (orm_ok ok_973 ok_974))
abbrev fa_98f : Fm := (.pair (.i .i64) (.pair (.i .i64) (.pair (.i .u32) .unit)))
abbrev fr_98f : Fm := (.tup (.pair .b (.pair (.i .u64) (.pair .b .unit))))
noncomputable def F_98f (a0 : Int) (a1 : Int) (a2 : Int) : Option (Bool × Int × Bool × Unit) :=
 ((F_93f a0 a2)).bind fun r0 =>
 let x1 : Int := r0.2.2.1
 bif (decide (r0.2.1 ≥ (0:Int))) then
 bif (decide (r0.2.1 > (39:Int))) then
 bif (decide (x1 > (0:Int))) then
 (some (r0.1, ((4611686018427387904:Int), (false, ()))))
 else
 bif (decide ((0:Int) ≤ (mn r0.2.1 (39:Int)))) then
 (some (r0.1, ((IntKind.wrap .u64 (x1 * ((2:Int) ^ (Min.min (Int.toNat (mn r0.2.1 (39:Int))) (64:Nat))))), (false, ()))))
 else
 none
 else
 bif (decide ((0:Int) ≤ (mn r0.2.1 (39:Int)))) then
 (some (r0.1, ((IntKind.wrap .u64 (x1 * ((2:Int) ^ (Min.min (Int.toNat (mn r0.2.1 (39:Int))) (64:Nat))))), (false, ()))))
 else
 none
 else
 ((F_973 x1 (IntKind.wrap .i64 ((0:Int) - r0.2.1)))).bind fun r2 =>
 let x3 : Bool := r2.2.2.1
 ((F_974 a1 r0.1 ((bits .and .u64 r2.1 (1:Int)) == (1:Int)) r2.2.1 x3)).bind fun r4 =>
 let x5 : Int := (bif r4 then (IntKind.wrap .u64 (r2.1 + (1:Int))) else r2.1)
 bif r2.2.1 then
 (some (r0.1, (x5, (true, ()))))
 else
 (some (r0.1, (x5, r2.2.2)))
noncomputable def G_98f : T fa_98f → TH hN0 → Option (Bool × Int × Bool × Unit) := fun x y => F_98f x.1 x.2.1 x.2.2.1
noncomputable def c_98f : Orc := ent i_98f [] 0 (sp fa_98f hN0 fr_98f hN0 G_98f (outN fr_98f))
theorem ok_98f : OrcOk PR c_98f := fnT okO_98f mixed p_98f (by kernel_rfl) (by kernel_rfl) (L := L0) (kp := false) (by kernel_rfl) (inn := (innN fr_98f)) (out := (outN fr_98f)) (fun _ _ => rfl) (loopsL (l := []) (by kernel_rfl) trivial) (fun x y => by kernel_rfl)
noncomputable def O_967 : Orc := (orm c_919 c_98f)
theorem okO_967 : OrcOk PR O_967 := (orm_ok ok_919 ok_98f)
abbrev fa_967 : Fm := (.pair (.i .i64) (.pair (.i .i64) (.pair (.i .u32) .unit)))
abbrev fr_967 : Fm := (.tup (.pair (.i .i32) (.pair (.agg (.pair .b (.pair .b (.pair .b (.pair .b (.pair .b .unit)))))) .unit)))
noncomputable def F_967 (a0 : Int) (a1 : Int) (a2 : Int) : Option (Int × (Bool × Bool × Bool × Bool × Bool × Unit) × Unit) :=
 ((F_919 a0 a2)).bind fun r0 =>
 bif (!r0) then
 (some ((-(2147483648:Int)), ((true, (false, (false, (false, (false, ()))))), ())))
 else
 ((F_98f a0 a1 a2)).bind fun r1 =>
 bif (decide (r1.2.1 > (2147483648:Int))) then
 (some ((-(2147483648:Int)), ((true, (false, (false, (false, (false, ()))))), ())))
 else
 bif (r1.2.1 == (2147483648:Int)) then
 bif (!r1.1) then
 (some ((-(2147483648:Int)), ((true, (false, (false, (false, (false, ()))))), ())))
 else
 bif r1.1 then
 (some ((IntKind.wrap .i32 (IntKind.wrap .i64 ((0:Int) - (IntKind.wrap .i64 r1.2.1)))), ((false, (false, (false, (false, r1.2.2)))), ())))
 else
 (some ((IntKind.wrap .i32 r1.2.1), ((false, (false, (false, (false, r1.2.2)))), ())))
 else
 bif r1.1 then
 (some ((IntKind.wrap .i32 (IntKind.wrap .i64 ((0:Int) - (IntKind.wrap .i64 r1.2.1)))), ((false, (false, (false, (false, r1.2.2)))), ())))
 else
 (some ((IntKind.wrap .i32 r1.2.1), ((false, (false, (false, (false, r1.2.2)))), ())))
noncomputable def G_967 : T fa_967 → TH hN0 → Option (Int × (Bool × Bool × Bool × Bool × Bool × Unit) × Unit) := fun x y => F_967 x.1 x.2.1 x.2.2.1
noncomputable def c_967 : Orc := ent i_967 [] 0 (sp fa_967 hN0 fr_967 hN0 G_967 (outN fr_967))
theorem ok_967 : OrcOk PR c_967 := fnT okO_967 mixed p_967 (by kernel_rfl) (by kernel_rfl) (L := L0) (kp := false) (by kernel_rfl) (inn := (innN fr_967)) (out := (outN fr_967)) (fun _ _ => rfl) (loopsL (l := []) (by kernel_rfl) trivial) (fun x y => by kernel_rfl)
noncomputable def O_956 : Orc := c_96f
theorem okO_956 : OrcOk PR O_956 := ok_96f
abbrev fa_956 : Fm := (.pair (.i .u32) .unit)
abbrev fr_956 : Fm := (.i .u32)
noncomputable def F_956 (a0 : Int) : Option (Int) :=
 ((F_96f (2:Int) a0)).bind fun r0 =>
 (some r0)
noncomputable def G_956 : T fa_956 → TH hN0 → Option (Int) := fun x y => F_956 x.1
noncomputable def c_956 : Orc := ent i_956 [] 0 (sp fa_956 hN0 fr_956 hN0 G_956 (outN fr_956))
theorem ok_956 : OrcOk PR c_956 := fnT okO_956 mixed p_956 (by kernel_rfl) (by kernel_rfl) (L := L0) (kp := false) (by kernel_rfl) (inn := (innN fr_956)) (out := (outN fr_956)) (fun _ _ => rfl) (loopsL (l := []) (by kernel_rfl) trivial) (fun x y => by kernel_rfl)
noncomputable def O_925 : Orc := c_940
theorem okO_925 : OrcOk PR O_925 := ok_940
abbrev fa_925 : Fm := (.pair (.i .u32) .unit)
abbrev fr_925 : Fm := .b
noncomputable def F_925 (a0 : Int) : Option (Bool) :=
 ((F_940 (2:Int) a0)).bind fun r0 =>
 bif (r0 == (4:Int)) then
 (some true)
 else
 (some (r0 == (5:Int)))
noncomputable def G_925 : T fa_925 → TH hN0 → Option (Bool) := fun x y => F_925 x.1
noncomputable def c_925 : Orc := ent i_925 [] 0 (sp fa_925 hN0 fr_925 hN0 G_925 (outN fr_925))
theorem ok_925 : OrcOk PR c_925 := fnT okO_925 mixed p_925 (by kernel_rfl) (by kernel_rfl) (L := L0) (kp := false) (by kernel_rfl) (inn := (innN fr_925)) (out := (outN fr_925)) (fun _ _ => rfl) (loopsL (l := []) (by kernel_rfl) trivial) (fun x y => by kernel_rfl)
noncomputable def O_941 : Orc := c_93b
theorem okO_941 : OrcOk PR O_941 := ok_93b
abbrev fa_941 : Fm := (.pair (.i .u32) (.pair (.i .u32) (.pair (.si .u32) .unit)))
abbrev fr_941 : Fm := (.i .u32)
abbrev ff_941_0 : Fm := (.pair (.i .u32) (.pair (.i .u32) (.pair (.si .u32) (.us 4 (.pair (.i .i64) (.us 14 .unit))))))
abbrev hf_941_0 : List BF := []
abbrev X_941_0 : Xs := (.one (.exit 0) [0] (.pair (.i .u32) (.us 21 .unit)) [])
abbrev S_941_0 : Type := T ff_941_0 × TH hf_941_0
abbrev E_941_0 : Type := TX X_941_0
noncomputable def LB_941_0 : Lps := L0
noncomputable def st_941_0 : StepT S_941_0 E_941_0 := fun R v kn ko =>
 let x0 : Int := v.1.1
 let x1 : Int := v.1.2.1
 let x2 : List Int := v.1.2.2.1
 let x3 : Int := v.1.2.2.2.1
 bif (decide (x3 < (((List.length x2) : Nat) : Int))) then
 bif (decide (((0:Int) ≤ x3) ∧ (x3 < (((List.length x2) : Nat) : Int)))) then
 ((F_93b x0 x1 (List.getD x2 (Int.toNat x3) (0:Int)))).bind fun r4 =>
 (kn ((r4, (x1, ((List.take (List.length x2) x2), ((IntKind.wrap .i64 (x3 + (1:Int))), ())))), ()))
 else
 none
 else
 (ko ((x0, ()), ()))
noncomputable def ls_941_0 : St → LTr := (lsum ff_941_0 hf_941_0 X_941_0 Prod.mk id st_941_0 (hd [] [] [0, 1, 2, 7] 0))
theorem lp_941_0 : LoopOk PR 0 (lpN f_941 0) ls_941_0 := loopT okO_941 mixed (L := LB_941_0) (d := 1) (bs := []) (ks := [0, 1, 2, 7]) (loopsL (l := []) (by kernel_rfl) trivial) (by kernel_rfl) (inS := Prod.mk) (outS := id) (fun _ _ => rfl) (inX := id) (outX := id) (fun _ => rfl) (fun v R kn ko => by kernel_rfl) (hd_wk [] [] [0, 1, 2, 7] 0)
noncomputable def L_941 : Lps := (lpB 3 (.by_ ls_941_0) L0)
noncomputable def F_941 (a0 : Int) (a1 : Int) (a2 : List Int) : Option (Int) :=
 ((lim st_941_0 ((a0, (a1, ((List.take (List.length a2) a2), ((0:Int), ())))), ()))).bind fun r0 =>
 (some r0.1.1)
noncomputable def G_941 : T fa_941 → TH hN0 → Option (Int) := fun x y => F_941 x.1 x.2.1 x.2.2.1
noncomputable def c_941 : Orc := ent i_941 [] 0 (sp fa_941 hN0 fr_941 hN0 G_941 (outN fr_941))
theorem ok_941 : OrcOk PR c_941 := fnT okO_941 mixed p_941 (by kernel_rfl) (by kernel_rfl) (L := L_941) (kp := false) (by kernel_rfl) (inn := (innN fr_941)) (out := (outN fr_941)) (fun _ _ => rfl) (loopsL (l := [((lpN f_941 0), ls_941_0)]) (by kernel_rfl) ⟨lp_941_0, trivial⟩) (fun x y => by kernel_rfl)
noncomputable def O_990 : Orc := (orm c_942 (orm c_926 (orm c_919 (orm c_923 (orm c_93f c_946)))))
theorem okO_990 : OrcOk PR O_990 := (orm_ok ok_942 (orm_ok ok_926 (orm_ok ok_919 (orm_ok ok_923 (orm_ok ok_93f ok_946)))))
abbrev fa_990 : Fm := (.pair (.i .i64) (.pair (.i .i64) (.pair (.i .u32) (.pair (.i .i64) .unit))))
abbrev fr_990 : Fm := (.tup (.pair (.i .u32) (.pair (.agg (.pair .b (.pair .b (.pair .b (.pair .b (.pair .b .unit)))))) .unit)))
noncomputable def F_990 (a0 : Int) (a1 : Int) (a2 : Int) (a3 : Int) : Option (Int × (Bool × Bool × Bool × Bool × Bool × Unit) × Unit) :=
 ((F_942 a0 [a2])).bind fun r0 =>
 bif r0.1 then
 ((F_926 a0)).bind fun r1 =>
 (some (r1, ((r0.2.1, (false, (false, (false, (false, ()))))), ())))
 else
 ((F_919 a0 a2)).bind fun r2 =>
 bif (!r2) then
 ((F_923 a0)).bind fun r3 =>
 (some ((bits .and .u32 a2 r3), ((false, (false, (false, (false, (false, ()))))), ())))
 else
 ((F_93f a0 a2)).bind fun r4 =>
 let x5 : Int := r4.2.2.1
 ((F_946 a0 a1 r4.1 (IntKind.wrap .i64 (r4.2.1 + (mn (mx a3 (-(5000:Int))) (5000:Int)))) x5 false)).bind fun r6 =>
 (some r6)
noncomputable def G_990 : T fa_990 → TH hN0 → Option (Int × (Bool × Bool × Bool × Bool × Bool × Unit) × Unit) := fun x y => F_990 x.1 x.2.1 x.2.2.1 x.2.2.2.1
noncomputable def c_990 : Orc := ent i_990 [] 0 (sp fa_990 hN0 fr_990 hN0 G_990 (outN fr_990))
theorem ok_990 : OrcOk PR c_990 := fnT okO_990 mixed p_990 (by kernel_rfl) (by kernel_rfl) (L := L0) (kp := false) (by kernel_rfl) (inn := (innN fr_990)) (out := (outN fr_990)) (fun _ _ => rfl) (loopsL (l := []) (by kernel_rfl) trivial) (fun x y => by kernel_rfl)
noncomputable def O_968 : Orc := c_990
theorem okO_968 : OrcOk PR O_968 := ok_990
abbrev fa_968 : Fm := (.pair (.i .u32) (.pair (.i .i64) .unit))
abbrev fr_968 : Fm := (.i .u32)
noncomputable def F_968 (a0 : Int) (a1 : Int) : Option (Int) :=
 ((F_990 (2:Int) (0:Int) a0 a1)).bind fun r0 =>
 (some r0.1)
noncomputable def G_968 : T fa_968 → TH hN0 → Option (Int) := fun x y => F_968 x.1 x.2.1
noncomputable def c_968 : Orc := ent i_968 [] 0 (sp fa_968 hN0 fr_968 hN0 G_968 (outN fr_968))
theorem ok_968 : OrcOk PR c_968 := fnT okO_968 mixed p_968 (by kernel_rfl) (by kernel_rfl) (L := L0) (kp := false) (by kernel_rfl) (inn := (innN fr_968)) (out := (outN fr_968)) (fun _ _ => rfl) (loopsL (l := []) (by kernel_rfl) trivial) (fun x y => by kernel_rfl)
noncomputable def O_936 : Orc := (orm c_925 (orm c_9c (orm c_929 (orm c_967 (orm c_916 (orm c_956 (orm c_93b (orm c_941 c_968))))))))
theorem okO_936 : OrcOk PR O_936 := (orm_ok ok_925 (orm_ok ok_9c (orm_ok ok_929 (orm_ok ok_967 (orm_ok ok_916 (orm_ok ok_956 (orm_ok ok_93b (orm_ok ok_941 ok_968))))))))
abbrev fa_936 : Fm := (.pair (.i .u32) .unit)
abbrev fr_936 : Fm := (.i .u32)
noncomputable def F_936 (a0 : Int) : Option (Int) :=
 ((F_925 a0)).bind fun r0 =>
 bif r0 then
 (some (2143289344:Int))
 else
 ((F_9c a0 (1118925336:Int))).bind fun r1 =>
 bif r1 then
 (some (2139095040:Int))
 else
 ((F_9c (3268407733:Int) a0)).bind fun r2 =>
 bif r2 then
 (some (0:Int))
 else
 ((F_929 a0 (1069066811:Int))).bind fun r3 =>
 ((F_967 (2:Int) (0:Int) r3)).bind fun r4 =>
 let x5 : Int := (IntKind.wrap .i64 r4.1)
 ((F_916 x5)).bind fun r6 =>
 ((F_956 r6)).bind fun r7 =>
 ((F_93b r7 (1060205056:Int) a0)).bind fun r8 =>
 ((F_93b r7 (901758606:Int) r8)).bind fun r9 =>
 ((F_941 (985008993:Int) r9 [(1007192201:Int), (1026206379:Int), (1042983595:Int), (1056964608:Int), (1065353216:Int), (1065353216:Int)])).bind fun r10 =>
 ((F_968 r10 x5)).bind fun r11 =>
 (some r11)
noncomputable def G_936 : T fa_936 → TH hN0 → Option (Int) := fun x y => F_936 x.1
noncomputable def c_936 : Orc := ent i_936 [] 0 (sp fa_936 hN0 fr_936 hN0 G_936 (outN fr_936))
theorem ok_936 : OrcOk PR c_936 := fnT okO_936 mixed p_936 (by kernel_rfl) (by kernel_rfl) (L := L0) (kp := false) (by kernel_rfl) (inn := (innN fr_936)) (out := (outN fr_936)) (fun _ _ => rfl) (loopsL (l := []) (by kernel_rfl) trivial) (fun x y => by kernel_rfl)
noncomputable def O_93e : Orc := (orm c_96f c_969)
theorem okO_93e : OrcOk PR O_93e := (orm_ok ok_96f ok_969)
abbrev fa_93e : Fm := (.pair (.i .i64) (.pair (.i .i64) (.pair (.i .u32) (.pair (.i .u32) .unit))))
abbrev fr_93e : Fm := (.tup (.pair (.i .u32) (.pair (.agg (.pair .b (.pair .b (.pair .b (.pair .b (.pair .b .unit)))))) .unit)))
noncomputable def F_93e (a0 : Int) (a1 : Int) (a2 : Int) (a3 : Int) : Option (Int × (Bool × Bool × Bool × Bool × Bool × Unit) × Unit) :=
 ((F_96f a0 a3)).bind fun r0 =>
 ((F_969 a0 a1 a2 r0)).bind fun r1 =>
 (some r1)
noncomputable def G_93e : T fa_93e → TH hN0 → Option (Int × (Bool × Bool × Bool × Bool × Bool × Unit) × Unit) := fun x y => F_93e x.1 x.2.1 x.2.2.1 x.2.2.2.1
noncomputable def c_93e : Orc := ent i_93e [] 0 (sp fa_93e hN0 fr_93e hN0 G_93e (outN fr_93e))
theorem ok_93e : OrcOk PR c_93e := fnT okO_93e mixed p_93e (by kernel_rfl) (by kernel_rfl) (L := L0) (kp := false) (by kernel_rfl) (inn := (innN fr_93e)) (out := (outN fr_93e)) (fun _ _ => rfl) (loopsL (l := []) (by kernel_rfl) trivial) (fun x y => by kernel_rfl)
noncomputable def O_917 : Orc := c_93e
theorem okO_917 : OrcOk PR O_917 := ok_93e
abbrev fa_917 : Fm := (.pair (.i .u32) (.pair (.i .u32) .unit))
abbrev fr_917 : Fm := (.i .u32)
noncomputable def F_917 (a0 : Int) (a1 : Int) : Option (Int) :=
 ((F_93e (2:Int) (0:Int) a0 a1)).bind fun r0 =>
 (some r0.1)
noncomputable def G_917 : T fa_917 → TH hN0 → Option (Int) := fun x y => F_917 x.1 x.2.1
noncomputable def c_917 : Orc := ent i_917 [] 0 (sp fa_917 hN0 fr_917 hN0 G_917 (outN fr_917))
theorem ok_917 : OrcOk PR c_917 := fnT okO_917 mixed p_917 (by kernel_rfl) (by kernel_rfl) (L := L0) (kp := false) (by kernel_rfl) (inn := (innN fr_917)) (out := (outN fr_917)) (fun _ _ => rfl) (loopsL (l := []) (by kernel_rfl) trivial) (fun x y => by kernel_rfl)
noncomputable def O_918 : Orc := (orm c_93f (orm c_940 (orm c_925 (orm c_9c (orm c_929 (orm c_917 (orm c_937 (orm c_915 (orm c_941 (orm c_93b c_916))))))))))
theorem okO_918 : OrcOk PR O_918 := (orm_ok ok_93f (orm_ok ok_940 (orm_ok ok_925 (orm_ok ok_9c (orm_ok ok_929 (orm_ok ok_917 (orm_ok ok_937 (orm_ok ok_915 (orm_ok ok_941 (orm_ok ok_93b ok_916))))))))))
abbrev fa_918 : Fm := (.pair (.i .u32) .unit)
abbrev fr_918 : Fm := (.i .u32)
abbrev ff_918_0 : Fm := (.us 4 (.pair (.i .i64) (.pair (.i .u64) (.us 72 .unit))))
abbrev hf_918_0 : List BF := []
abbrev X_918_0 : Xs := (.one (.exit 1) [4, 5] (.us 4 (.pair (.i .i64) (.pair (.i .u64) (.us 72 .unit)))) [])
abbrev S_918_0 : Type := T ff_918_0 × TH hf_918_0
abbrev E_918_0 : Type := TX X_918_0
noncomputable def LB_918_0 : Lps := L0
noncomputable def st_918_0 : StepT S_918_0 E_918_0 := fun R v kn ko =>
 bif (decide (v.1.2.1 < (8388608:Int))) then
 (kn (((IntKind.wrap .i64 (v.1.1 - (1:Int))), ((IntKind.wrap .u64 (v.1.2.1 * (2:Int))), ())), ()))
 else
 (ko v)
noncomputable def ls_918_0 : St → LTr := (lsum ff_918_0 hf_918_0 X_918_0 Prod.mk id st_918_0 (hd [] [] [4, 5] 0))
theorem lp_918_0 : LoopOk PR 0 (lpN f_918 0) ls_918_0 := loopT okO_918 mixed (L := LB_918_0) (d := 1) (bs := []) (ks := [4, 5]) (loopsL (l := []) (by kernel_rfl) trivial) (by kernel_rfl) (inS := Prod.mk) (outS := id) (fun _ _ => rfl) (inX := id) (outX := id) (fun _ => rfl) (fun v R kn ko => by kernel_rfl) (hd_wk [] [] [4, 5] 0)
noncomputable def L_918 : Lps := (lpB 12 (.by_ ls_918_0) L0)
noncomputable def F_918 (a0 : Int) : Option (Int) :=
 let x0 : List Int := [(1049774373:Int), (1053609165:Int), (1059760811:Int)]
 ((F_93f (2:Int) a0)).bind fun r1 =>
 ((F_940 (2:Int) a0)).bind fun r2 =>
 ((F_925 a0)).bind fun r3 =>
 bif r3 then
 (some (2143289344:Int))
 else
 bif (r2 == (0:Int)) then
 (some (4286578688:Int))
 else
 bif r1.1 then
 (some (2143289344:Int))
 else
 bif (r2 == (3:Int)) then
 (some (2139095040:Int))
 else
 ((lim st_918_0 (r1.2, ()))).bind fun r4 =>
 let x5 : Int := (bits .or .u32 (1065353216:Int) (IntKind.wrap .u32 (bits .and .u64 r4.1.2.1 (8388607:Int))))
 let x6 : Int := (IntKind.wrap .i64 (r4.1.1 + (23:Int)))
 ((F_9c x5 (1068827891:Int))).bind fun r7 =>
 bif r7 then
 ((F_929 x5 (1056964608:Int))).bind fun r8 =>
 ((F_917 r8 (1065353216:Int))).bind fun r9 =>
 ((F_937 (1073741824:Int) r9)).bind fun r10 =>
 ((F_915 r9 r10)).bind fun r11 =>
 ((F_929 r11 r11)).bind fun r12 =>
 ((F_941 (1046711865:Int) r12 x0)).bind fun r13 =>
 ((F_929 r13 r12)).bind fun r14 =>
 ((F_937 r11 r11)).bind fun r15 =>
 ((F_93b r11 r14 r15)).bind fun r16 =>
 ((F_916 (IntKind.wrap .i64 (x6 + (1:Int))))).bind fun r17 =>
 ((F_93b r17 (901758606:Int) r16)).bind fun r18 =>
 ((F_93b r17 (1060205056:Int) r18)).bind fun r19 =>
 (some r19)
 else
 ((F_917 x5 (1065353216:Int))).bind fun r20 =>
 ((F_937 (1073741824:Int) r20)).bind fun r21 =>
 ((F_915 r20 r21)).bind fun r22 =>
 ((F_929 r22 r22)).bind fun r23 =>
 ((F_941 (1046711865:Int) r23 x0)).bind fun r24 =>
 ((F_929 r24 r23)).bind fun r25 =>
 ((F_937 r22 r22)).bind fun r26 =>
 ((F_93b r22 r25 r26)).bind fun r27 =>
 ((F_916 x6)).bind fun r28 =>
 ((F_93b r28 (901758606:Int) r27)).bind fun r29 =>
 ((F_93b r28 (1060205056:Int) r29)).bind fun r30 =>
 (some r30)
noncomputable def G_918 : T fa_918 → TH hN0 → Option (Int) := fun x y => F_918 x.1
noncomputable def c_918 : Orc := ent i_918 [] 0 (sp fa_918 hN0 fr_918 hN0 G_918 (outN fr_918))
theorem ok_918 : OrcOk PR c_918 := fnT okO_918 mixed p_918 (by kernel_rfl) (by kernel_rfl) (L := L_918) (kp := false) (by kernel_rfl) (inn := (innN fr_918)) (out := (outN fr_918)) (fun _ _ => rfl) (loopsL (l := [((lpN f_918 0), ls_918_0)]) (by kernel_rfl) ⟨lp_918_0, trivial⟩) (fun x y => by kernel_rfl)
set_option exponentiation.threshold 2000
theorem rmul_eq {a b : Int} (ha : w32 a) (hb : w32 b) : F_929 a b = some (mulf a b) := by
  unfold F_929; rw [mulr_eq 2 0 ha hb]; rfl
theorem radd_eq {a b : Int} (ha : w32 a) (hb : w32 b) : F_937 a b = some (addf a b) := by
  unfold F_937; rw [addr_eq 2 0 ha hb]; rfl
theorem rabove_eq {a b : Int} (ha : w32 a) (hb : w32 b) : F_9c a b = some (lt 2 b a) := by
  unfold F_9c; rw [lessr_eq 2 hb ha]; rfl
theorem rnan_eq {a : Int} (ha : w32 a) : F_925 a = some (nan 2 a) := by
  have kb := kl_le 2 a
  have kn := kl_nan 2 a
  unfold F_925
  rw [classr_eq 2 ha.1 ha.2]
  simp only [Option.bind_some]
  have : nan 2 a = decide (kl 2 a ≥ 4) := by unfold nan; exact decide_eq_decide.2 kn.symm
  rw [this]
  generalize kl 2 a = k at *
  rw [bif_eq]
  by_cases h : k = 4
  · rw [if_pos h]; subst h; rfl
  · rw [if_neg h]; congr 1; rw [Bool.eq_iff_iff]; simp; omega
theorem mask2 {a : Int} (h : w32 a) : a % (2 * TT 2) = a := by
  have h1 := h.1
  have h2 := h.2
  show a % 4294967296 = a
  omega
theorem rsub_eq {a b : Int} (ha : w32 a) (hb : w32 b) : F_917 a b = some (subf a b) := by
  unfold F_917 F_93e
  rw [minusr_eq 2 hb]
  simp only [Option.bind_some]
  have wm : w32 (if nan 2 b = true then b % (2 * TT 2) else turnS 2 b) := by
    split
    · rw [mask2 hb]; exact hb
    · exact turn2_w hb
  rw [addr_eq 2 0 ha wm]
  simp only [Option.bind_some]
  congr 1
  unfold subf subS
  cases h : nan 2 b
  · simp only [Bool.false_eq_true, if_false, Bool.or_false]
    cases h2 : nan 2 a
    · rfl
    · unfold addS; rw [h2]; rfl
  · simp only [if_true, Bool.or_true]
    unfold addS; rw [mask2 hb, h]; simp
theorem rminus_eq {a : Int} (h : w32 a) (hn : nan 2 a = false) : F_956 a = some (turnS 2 a) := by
  unfold F_956; rw [minusr_eq 2 h, hn]; rfl
theorem finr_eq (f : Int) {a : Int} (ha : w32 a) : F_919 f a = some (!(nan f a || inff f a)) := by
  have kn := kl_nan f a
  have ki := kl_inf f a
  unfold F_919
  rw [classr_eq f ha.1 ha.2]
  simp only [Option.bind_some]
  have e1 : nan f a = decide (kl f a ≥ 4) := by unfold nan; exact decide_eq_decide.2 kn.symm
  have e2 : inff f a = decide (kl f a = 3) := by unfold inff; exact decide_eq_decide.2 ki.symm
  rw [e1, e2]
  congr 1
  rw [Bool.eq_iff_iff]; simp; omega
theorem scaler_eq (f mode : Int) {a : Int} (n : Int) (ha : w32 a) : F_990 f mode a n = some (scaleS f mode a n) := by
  have xa := xp_bd f a
  unfold F_990 scaleS
  rw [nans_eq f [a] (by simp) (by simpa using ha), nanr_w, finr_eq f ha, maskr_eq, unpackr_eq f ha]
  simp only [Option.bind_some, List.any_cons, List.any_nil, Bool.or_false, mn_eq, mx_eq]
  rw [wi64 (by omega), packr_eq f mode _ _ (sig_w64 f a), show min (max (xp f a + min (max n (-5000)) 5000) (-10000)) 10000 = xp f a + min (max n (-5000)) 5000 by omega, and_TT f ha.1 ha.2]
  simp only [Option.bind_some]
  rcases cls f a with ⟨a1, a3, a4⟩ | ⟨a1, a2, a3, a4⟩ | ⟨a1, a2, a3, a4⟩ | ⟨a1, a2, a3, a4⟩
  · rw [a1]; rfl
  · rw [a1, a3, a4]
    have hs : sig f a = 0 := (sig_zero f a a1 a4).2 a3
    simp only [Bool.or_false, Bool.not_false, Bool.not_true, cond_false, cond_true, Bool.false_eq_true, if_false, Bool.false_or, if_true]
    rw [hs]
    unfold pk
    rw [if_pos ⟨rfl, rfl⟩, zero_bits f ha a3]
  · rw [a1, a3, a4]; rfl
  · rw [a1, a3, a4]; rfl
theorem rscale_eq {a : Int} (n : Int) (ha : w32 a) : F_968 a n = some (scalef a n) := by
  unfold F_968; rw [scaler_eq 2 0 n ha]; rfl
theorem ralong_eq {x p : Int} (hx : w32 x) (hp : w32 p) (l : List Int) (hl : ∀ c ∈ l, w32 c) (hn : l.length ≤ 100) : F_941 p x l = some (polyS x p l) := by
  have key := lim_seq (st := st_941_0) (fun i => ((polyS x p (l.take i), (x, (l, ((i : Int), ())))), ())) (b := ((polyS x p (l.take l.length), ()), ())) l.length
    (fun i hi R kn ko => by
      unfold st_941_0
      dsimp only
      simp only [List.take_length, bif_dec, Int.toNat_natCast]
      rw [if_pos (by omega), if_pos (by omega), rfma_eq (polyS_w hp _) hx (by
        rw [List.getD_eq_getElem?_getD, List.getElem?_eq_getElem hi]; exact hl _ (List.getElem_mem hi)), take_foldl l hi]
      simp only [Option.bind_some]
      rw [wi64 (n := (i : Int) + 1) (by omega), show ((i + 1 : Nat) : Int) = (i : Int) + 1 by omega])
    (fun R kn ko => by
      unfold st_941_0
      dsimp only
      simp only [List.take_length, bif_dec]
      rw [if_neg (by omega)])
  unfold F_941
  rw [List.take_length]
  rw [show polyS x p (l.take 0) = p from rfl] at key
  rw [List.take_length] at key
  exact (congrArg (fun o => Option.bind o fun r0 => some r0.1.1) key)
theorem ab_xp {m : Int} (h : ab 20 m) : xp 2 m < 0 := by
  apply Int.lt_of_not_ge
  intro k
  have xb := xp_bd 2 m
  have sb := sig_bd 2 m
  have h1 := h.2.1
  have h2 := h.2.2
  have hN : sig 2 m * 2 ^ (xp 2 m + 149).toNat ≤ 2 ^ 20 * 2 ^ 149 := by
    rw [show vz m = sv (sg 2 m) (sig 2 m * 2 ^ (xp 2 m + 149).toNat) from rfl] at h1 h2
    unfold sv at h1 h2; cases hs : sg 2 m <;> rw [hs] at h1 h2 <;> simp at h1 h2 ⊢ <;> omega
  have hx : ex 2 m < 255 := (ex_fin 2 m).2 h.1.2
  have hs : 8388608 ≤ sig 2 m := by
    have fb := ff_bd 2 m
    unfold xp at k
    unfold sig
    rw [show RR 2 = 256 from rfl, show BB 2 = 8388608 from rfl, show le 2 = -126 from rfl, show MM 2 = 23 from rfl] at *
    by_cases z : ex 2 m = 0
    · rw [if_pos z] at k; omega
    · rw [if_neg z, if_neg (by omega)]; omega
  have p := p2_pos (xp 2 m + 149).toNat
  have h3 : 8388608 * 2 ^ (xp 2 m + 149).toNat ≤ sig 2 m * 2 ^ (xp 2 m + 149).toNat := Int.mul_le_mul_of_nonneg_right hs (by omega)
  have h4 := p2_le (show 149 ≤ (xp 2 m + 149).toNat by omega)
  have P := p2_pos 149
  have : (2 : Int) ^ 20 = 1048576 := rfl
  omega
theorem rtoint_eq {m : Int} (h : ab 20 m) : ∃ x, F_967 2 0 m = some (wholef m, x) := by
  have xl := ab_xp h
  have xa := xp_bd 2 m
  have sb := sig_bd 2 m
  have ha := h.1.1
  have s64 := sig_w64 2 m
  have ln24 : 0 ≤ ln (sig 2 m) ∧ ln (sig 2 m) ≤ 24 := ln_bd (k := 24) sb.1 sb.2
  have h40 : ¬ xp 2 m + ln (sig 2 m) > 40 := by omega
  have tq := toq_bd sb.1 h40
  have hn := fin_nan h.1
  have hi := fin_inf h.1
  have wb := wholef_ab (k := 20) (by decide) h
  have hw : F_98f 2 0 m = some (sg 2 m, (unitsW 0 (sg 2 m) (xp 2 m) (sig 2 m)).1, (unitsW 0 (sg 2 m) (xp 2 m) (sig 2 m)).2, ()) := by
    unfold F_98f unitsW
    rw [unpackr_eq 2 ha, if_neg h40]
    simp only [Option.bind_some]
    rw [decide_eq_false (show ¬ xp 2 m ≥ 0 by omega)]
    simp only [cond_false]
    rw [wi64 (n := 0 - xp 2 m) (by omega), show (0 : Int) - xp 2 m = -xp 2 m by omega, divide_eq s64 (by omega) (by omega)]
    simp only [Option.bind_some]
    rw [and1_64 ⟨tq.1, by omega⟩, upr_eq]
    simp only [Option.bind_some]
    rw [wu64 (n := qS (sig 2 m) (-xp 2 m) + 1) (by omega)]
    unfold fin1
    have e : ((qS (sig 2 m) (-xp 2 m) % 2 == 1) : Bool) = decide (qS (sig 2 m) (-xp 2 m) % 2 = 1) := by rw [Bool.eq_iff_iff]; simp
    rw [e]
    generalize upS 0 (sg 2 m) (decide (qS (sig 2 m) (-xp 2 m) % 2 = 1)) (halfS (sig 2 m) (-xp 2 m)) (restS (sig 2 m) (-xp 2 m) false) = b
    cases b <;> cases halfS (sig 2 m) (-xp 2 m) <;> rfl
  have hz : 0 ≤ (unitsW 0 (sg 2 m) (xp 2 m) (sig 2 m)).1 ∧ (unitsW 0 (sg 2 m) (xp 2 m) (sig 2 m)).1 ≤ 1099511627777 := by
    unfold unitsW; rw [if_neg h40]
    unfold fin1
    dsimp only
    split <;> omega
  unfold wholef tointS at wb ⊢
  rw [hn, hi] at wb ⊢
  simp only [Bool.or_false, Bool.false_eq_true, if_false] at wb ⊢
  unfold F_967
  rw [finr_eq 2 ha, hn, hi, hw]
  simp only [Option.bind_some, Bool.or_false, Bool.not_false, Bool.not_true, cond_false]
  generalize (unitsW 0 (sg 2 m) (xp 2 m) (sig 2 m)).1 = z at *
  generalize (unitsW 0 (sg 2 m) (xp 2 m) (sig 2 m)).2 = y at *
  have c20 : (2 : Int) ^ (20 + 1) = 2097152 := rfl
  rw [c20] at wb
  have zs : z ≤ 2097152 := by
    apply Int.le_of_not_gt
    intro k
    cases hs : sg 2 m <;> rw [hs] at wb <;> simp only [Bool.false_eq_true, if_false, if_true] at wb
    · split at wb
      · rename_i q; dsimp only at wb; omega
      · dsimp only at wb; omega
    · split at wb
      · rename_i q; dsimp only at wb; omega
      · dsimp only at wb; omega
  rw [decide_eq_false (show ¬ z > 2147483648 by omega), beq_false_of_ne (show z ≠ 2147483648 by omega), wi64 (n := z) (by omega), wi64 (n := 0 - z) (by omega)]
  simp only [cond_false]
  cases sg 2 m
  · simp only [Bool.false_eq_true, if_false, cond_false]
    rw [wi32 (n := z) (by omega), if_pos rfl]
    exact ⟨_, rfl⟩
  · simp only [if_true, cond_true]
    rw [show (0 : Int) - z = -z by omega, wi32 (n := -z) (by omega), if_pos rfl]
    exact ⟨_, rfl⟩
theorem rexp_eq {x : Int} (h : w32 x) : F_936 x = some (expS x) := by
  unfold F_936 expS
  rw [rnan_eq h, rabove_eq h (wlit rfl), rabove_eq (wlit rfl) h, rmul_eq h (wlit rfl)]
  simp only [Option.bind_some]
  cases h0 : nan 2 x
  · cases h1 : lt 2 1118925336 x
    · cases h2 : lt 2 x 3268407733
      · simp only [cond_false, Bool.false_eq_true, if_false]
        have a := exp_in h h0 h1 h2
        have hm : ab 8 (mulf x 1069066811) := ab_mul (i := 7) (j := 1) (by decide) (by decide) a (ab_lit (by decide +kernel))
        obtain ⟨y, hy⟩ := rtoint_eq (ab_mono (by decide) hm)
        have wb := wholef_bd (mulf x 1069066811)
        have hk := ab_int (k := 9) (by decide) (wholef_ab (by decide) hm)
        rw [hy]
        simp only [Option.bind_some]
        rw [wi64 (by omega), rint_eq (by omega)]
        simp only [Option.bind_some]
        rw [rminus_eq (intf_w _) (fin_nan hk.1)]
        simp only [Option.bind_some]
        rw [rfma_eq (turn2_w (intf_w _)) (wlit rfl) h]
        simp only [Option.bind_some]
        rw [rfma_eq (turn2_w (intf_w _)) (wlit rfl) (fma_w _ _ _)]
        simp only [Option.bind_some]
        rw [ralong_eq (fma_w _ _ _) (wlit rfl) _ (by decide) (by decide)]
        simp only [Option.bind_some]
        rw [rscale_eq _ (polyS_w (wlit rfl) _)]
        rfl
      · rfl
    · rfl
  · rfl
theorem log_loop {m e : Int} (h0 : 0 < m) (h1 : m < 16777216) (hx : -100000 ≤ e ∧ e ≤ 100000) :
    lim st_918_0 ((e, (m, ())), ()) = some ((e - ((23 - lg m : Nat) : Int), (m * 2 ^ (23 - lg m), ())), ()) := by
  obtain ⟨b1, b2, b3⟩ := norm_bd h0 h1
  have hb := lg_bd (k := 24) h0 (by have : (2 : Int) ^ 24 = 16777216 := rfl; omega)
  have := lim_seq (st := st_918_0) (fun i => ((e - (i : Int), (m * 2 ^ i, ())), ())) (b := ((e - ((23 - lg m : Nat) : Int), (m * 2 ^ (23 - lg m), ())), ())) (23 - lg m)
    (fun i hi R kn ko => by
      have h3 := b3 i hi
      have h4 : 0 < m * 2 ^ i := Int.mul_pos h0 (p2_pos i)
      unfold st_918_0
      dsimp only
      rw [bif_dec, if_pos h3, wi64 (by omega), wu64 (by omega), show m * 2 ^ i * 2 = m * 2 ^ (i + 1) by rw [p2_succ, Int.mul_comm 2, Int.mul_assoc], show e - (i : Int) - 1 = e - ((i + 1 : Nat) : Int) by omega])
    (fun R kn ko => by
      unfold st_918_0
      dsimp only
      rw [bif_dec, if_neg (Int.not_lt.2 b1)])
  simpa using this
theorem near_one {M : Int} (h0 : 8388608 ≤ M) (h1 : M < 16777216) : fnt (1065353216 + (M - 8388608)) ∧ xp 2 (1065353216 + (M - 8388608)) = -23 ∧ sig 2 (1065353216 + (M - 8388608)) = M ∧ sg 2 (1065353216 + (M - 8388608)) = false := by
  have w : w32 (1065353216 + (M - 8388608)) := ⟨by omega, by omega⟩
  obtain ⟨c1, c2, c3, c4, c5, c6⟩ := cs2
  refine ⟨⟨w, by omega⟩, ?_, ?_, ?_⟩
  · unfold xp ex; rw [c1, c2, c3, c6, show (1065353216 + (M - 8388608)) / 8388608 % 256 = 127 by omega]; decide
  · unfold sig ex ff; rw [c1, c3, show (1065353216 + (M - 8388608)) / 8388608 % 256 = 127 by omega, show (1065353216 + (M - 8388608)) % 8388608 = M - 8388608 by omega]; simp
  · rw [sgd w]; exact decide_eq_false (by omega)
theorem scalef_pk {a : Int} (n : Int) (fa : fnt a) (hz : zr 2 a = false) : scalef a n = (pk 2 0 (sg 2 a) (xp 2 a + min (max n (-5000)) 5000) (sig 2 a) false).1 := by
  unfold scalef scaleS; rw [fin_nan fa, fin_inf fa, hz]; rfl
theorem log_m {x : Int} (fx : fnt x) (hz : zr 2 x = false) (hs : sg 2 x = false) : scalef x (-logE x) = 1065353216 + (sig 2 x * 2 ^ (23 - lg (sig 2 x)) - 8388608) := by
  have s0 : sig 2 x ≠ 0 := fun k => by rw [(sig_zero 2 x (fin_nan fx) (fin_inf fx)).1 k] at hz; cases hz
  have sb := sig_bd 2 x
  have xa := xp_bd 2 x
  have hp : 0 < sig 2 x := by omega
  have c24 : (2 : Int) ^ 24 = 16777216 := rfl
  have hl := lg_bd (k := 24) hp (by have := sb.2; rw [show BB 2 = 8388608 from rfl] at this; omega)
  obtain ⟨b1, b2, -⟩ := norm_bd hp (by have := sb.2; rw [show BB 2 = 8388608 from rfl] at this; omega)
  obtain ⟨n1, n2, n3, n4⟩ := near_one b1 b2
  have hr := pk_round 2 0 (s := 1065353216 + (sig 2 x * 2 ^ (23 - lg (sig 2 x)) - 8388608)) ⟨n1.1.1, by show _ < 2 * 2147483648; omega⟩ (fin_nan n1) (fin_inf n1)
  rw [n2, n3, n4, pk_shift 2 0 false _ _ _ sb.1] at hr
  rw [scalef_pk _ fx hz, hs]
  unfold logE
  rw [ln_pos hp]
  rw [show xp 2 x + min (max (-(xp 2 x + ((lg (sig 2 x) : Int) + 1) - 1)) (-5000)) 5000 = -23 + ((23 - lg (sig 2 x) : Nat) : Int) by omega, hr]
theorem half_eq {v : Int} (fv : fnt v) (hz : zr 2 v = false) : mulf v 1056964608 = scalef v (-1) := by
  rw [scalef_pk _ fv hz]
  have sb := sig_bd 2 v
  unfold mulf mulS
  rw [fin_nan fv, fin_inf fv, hz, show nan 2 1056964608 = false by decide, show inff 2 1056964608 = false by decide, show sg 2 1056964608 = false by decide, show xp 2 1056964608 = -24 by decide, show sig 2 1056964608 = 2 ^ 23 by decide]
  simp only [Bool.or_false, Bool.and_false, Bool.false_and, Bool.false_eq_true, if_false]
  rw [pk_shift 2 0 _ _ _ _ sb.1]
  have e1 : (!(sg 2 v == false)) = sg 2 v := by cases sg 2 v <;> rfl
  rw [e1]
  congr 2
  omega
theorem rlog_eq {x : Int} (h : w32 x) : F_918 x = some (logS x) := by
  have xa := xp_bd 2 x
  have sb := sig_bd 2 x
  have hr : ∀ e m : Int, w32 m → -10000 ≤ e ∧ e ≤ 10000 →
      ((F_917 m (1065353216:Int)).bind fun r22 =>
            (F_937 (1073741824:Int) r22).bind fun r23 =>
            (F_915 r22 r23).bind fun r24 =>
            (F_929 r24 r24).bind fun r25 =>
            (F_941 (1046711865:Int) r25 [(1049774373:Int), (1053609165:Int), (1059760811:Int)]).bind fun r26 =>
            (F_929 r26 r25).bind fun r27 =>
            (F_937 r24 r24).bind fun r28 =>
            (F_93b r24 r27 r28).bind fun r29 =>
            (F_916 e).bind fun r30 =>
            (F_93b r30 (901758606:Int) r29).bind fun r31 =>
            (F_93b r30 (1060205056:Int) r31).bind fun r32 =>
            (some r32)) = some (logK e m) := by
    intro e m hm he
    rw [rsub_eq hm (wlit rfl)]
    simp only [Option.bind_some]
    rw [radd_eq (wlit rfl) (subf_w _ _)]
    simp only [Option.bind_some]
    rw [rdiv_eq (subf_w _ _) (addf_w _ _)]
    simp only [Option.bind_some]
    rw [rmul_eq (divf_w _ _) (divf_w _ _)]
    simp only [Option.bind_some]
    rw [ralong_eq (mulf_w _ _) (wlit rfl) _ (by decide) (by decide)]
    simp only [Option.bind_some]
    rw [rmul_eq (polyS_w (wlit rfl) _) (mulf_w _ _), radd_eq (divf_w _ _) (divf_w _ _)]
    simp only [Option.bind_some]
    rw [rfma_eq (divf_w _ _) (mulf_w _ _) (addf_w _ _), rint_eq (by omega)]
    simp only [Option.bind_some]
    rw [rfma_eq (intf_w _) (wlit rfl) (fma_w _ _ _)]
    simp only [Option.bind_some]
    rw [rfma_eq (intf_w _) (wlit rfl) (fma_w _ _ _)]
    rfl
  have kz : (kl 2 x == 0) = zr 2 x := by
    have := kl_zero 2 x
    unfold zr; rw [Bool.eq_iff_iff]; simp; exact this
  have ki : (kl 2 x == 3) = inff 2 x := by
    have := kl_inf 2 x
    unfold inff; rw [Bool.eq_iff_iff]; simp; exact this
  unfold F_918 logS
  rw [unpackr_eq 2 h, classr_eq 2 h.1 h.2, rnan_eq h]
  simp only [Option.bind_some]
  rw [kz, ki]
  cases h0 : nan 2 x
  · cases h1 : zr 2 x
    · cases h2 : sg 2 x
      · cases h3 : inff 2 x
        · simp only [cond_false, Bool.false_eq_true, if_false]
          have fx : fnt x := num_cls h h0 h3
          have s0 : sig 2 x ≠ 0 := fun k => by rw [(sig_zero 2 x h0 h3).1 k] at h1; cases h1
          have hp : 0 < sig 2 x := by omega
          have c24 : (2 : Int) ^ 24 = 16777216 := rfl
          have hl := lg_bd (k := 24) hp (by have := sb.2; rw [show BB 2 = 8388608 from rfl] at this; omega)
          obtain ⟨b1, b2, -⟩ := norm_bd hp (by have := sb.2; rw [show BB 2 = 8388608 from rfl] at this; omega)
          rw [log_loop hp (by have := sb.2; rw [show BB 2 = 8388608 from rfl] at this; omega) (by omega)]
          simp only [Option.bind_some]
          have em := log_m fx h1 h2
          have e1 : bits .or .u32 1065353216 (IntKind.wrap .u32 (bits .and .u64 (sig 2 x * 2 ^ (23 - lg (sig 2 x))) 8388607)) = scalef x (-logE x) := by
            rw [em]
            obtain ⟨n1, -⟩ := near_one b1 b2
            have hw : ∀ M : Int, 8388608 ≤ M → M < 16777216 → bits .and .u64 M 8388607 = M - 8388608 := by
              intro M m1 m2
              have := bits_and (k := .u64) rfl (a := M.toNat) (b := 8388607) (by show M.toNat < 2 ^ 64; omega) (by decide)
              rw [show ((M.toNat : Nat) : Int) = M by omega] at this
              rw [show (8388607 : Int) = ((8388607 : Nat) : Int) from rfl, this, show (8388607 : Nat) = 2 ^ 23 - 1 from rfl, Nat.and_two_pow_sub_one_eq_mod]
              omega
            rw [hw _ b1 b2, wu32 (by omega), or_join32 1065353216 _ 23 (by decide) (by decide) (by omega) (by have : (2 : Int) ^ 23 = 8388608 := rfl; omega) (by decide) (by decide)]
          have e2 : xp 2 x - ((23 - lg (sig 2 x) : Nat) : Int) + 23 = logE x := by unfold logE; rw [ln_pos hp]; omega
          have be : -1000 ≤ logE x ∧ logE x ≤ 1000 := by unfold logE; rw [ln_pos hp]; omega
          rw [wi64 (n := xp 2 x - ((23 - lg (sig 2 x) : Nat) : Int) + 23) (by omega), e1, e2, wi64 (n := logE x + 1) (by omega), rabove_eq (scalef_w _ _) (wlit rfl), rmul_eq (scalef_w _ _) (wlit rfl)]
          simp only [Option.bind_some]
          have fm : fnt (scalef x (-logE x)) ∧ zr 2 (scalef x (-logE x)) = false := by
            rw [em]
            obtain ⟨n1, -⟩ := near_one b1 b2
            refine ⟨n1, ?_⟩
            unfold zr; exact decide_eq_false (by show ¬ ((1065353216 + (sig 2 x * 2 ^ (23 - lg (sig 2 x)) - 8388608)) % 2147483648 = 0); omega)
          rw [half_eq fm.1 fm.2, hr _ _ (scalef_w _ _) (by omega), hr _ _ (scalef_w _ _) (by omega)]
          unfold logM
          cases lt 2 1068827891 (scalef x (-logE x)) <;> rfl
        · have : x = 2139095040 := by
            unfold inff at h3; rw [sgd h] at h2
            rw [show TT 2 = 2147483648 from rfl, show IN 2 = 2139095040 from rfl, decide_eq_true_iff] at h3
            rw [decide_eq_false_iff_not] at h2
            have := h.1
            omega
          rw [this]; rfl
      · rfl
    · rfl
  · rfl
set_option maxHeartbeats 4000000
abbrev gl (l : List Int) (i : Nat) : Int := l.getD i 0
def rowL (l : List Int) (C i : Nat) : List Int := (l.drop (i * C)).take C
theorem rowL_len {l : List Int} {R C i : Nat} (hl : l.length = R * C) (hi : i < R) : (rowL l C i).length = C := by
  have : (i + 1) * C ≤ R * C := Nat.mul_le_mul_right _ hi
  rw [Nat.add_mul] at this
  unfold rowL; simp; omega
theorem rowL_get {l : List Int} {C i x : Nat} (hx : x < C) : gl (rowL l C i) x = gl l (i * C + x) := by
  unfold gl rowL
  rw [List.getD_eq_getElem?_getD, List.getElem?_take, if_pos hx, List.getElem?_drop, List.getD_eq_getElem?_getD]
theorem rowL_wl {l : List Int} {C i : Nat} (h : wl l) : wl (rowL l C i) := fun a ha => h a (List.mem_of_mem_drop (List.mem_of_mem_take ha))
theorem line_eq (f : Int) (l : List Int) (R C i : Nat) (hR : R ≤ 4096) (hC : C ≤ 4096) (hl : l.length = R * C) (hi : i < R) : F_9a7 ((R : Int), (C : Int), f, l, ()) (i : Int) = some (rowL l C i) := by
  have h1 : (i + 1) * C ≤ R * C := Nat.mul_le_mul_right _ hi
  have h2 : R * C ≤ 4096 * 4096 := Nat.mul_le_mul hR hC
  have h3 : i * C ≤ (i + 1) * C := Nat.mul_le_mul_right _ (by omega)
  have e1 : ((i : Int) * (C : Int)) = ((i * C : Nat) : Int) := by simp
  have e2 : (((i : Int) + 1) * (C : Int)) = (((i + 1) * C : Nat) : Int) := by simp
  unfold F_9a7
  dsimp only
  rw [wi64 (n := (i : Int) + 1) (by omega), e1, e2, wi64 (n := ((i * C : Nat) : Int)) (by omega), wi64 (n := (((i + 1) * C : Nat) : Int)) (by omega), bif_dec, if_pos (by omega), Int.toNat_natCast, Int.toNat_natCast]
  have e3 : (i + 1) * C - i * C = C := by rw [Nat.add_mul]; omega
  rw [e3, List.take_take, Nat.min_self]; rfl
theorem rc_bd {R C : Nat} (hR : R ≤ 4096) (hC : C ≤ 4096) : R * C ≤ 16777216 := Nat.mul_le_mul hR hC
theorem nums_eq (X Y : List Int) (hn : X.length < 4611686018427387904) : F_91a X Y = some (decide (X = Y)) := by
  unfold F_91a
  simp only [List.take_length]
  rw [bif_ne]
  by_cases h : X.length = Y.length
  · rw [if_pos (by omega)]
    have step : ∀ i, i < X.length → gl X i = gl Y i → ∀ R kn ko, st_91a_0 R ((X, (Y, ((i : Int), ()))), ()) kn ko = kn ((X, (Y, (((i + 1 : Nat) : Int), ()))), ()) := by
      intro i hi he R kn ko
      unfold st_91a_0
      dsimp only
      simp only [List.take_length, bif_dec, Int.toNat_natCast]
      rw [if_pos (by omega), if_pos (by omega), if_pos (by omega)]
      have : (X.getD i 0 != Y.getD i 0) = false := by simpa [gl] using he
      rw [this, wi64 (by omega), show ((i + 1 : Nat) : Int) = (i : Int) + 1 by omega]; rfl
    rcases first_or (fun i => gl X i != gl Y i) X.length with k | ⟨k, h1, h2, h3⟩
    · have := lim_seq (st := st_91a_0) (fun i => ((X, (Y, ((i : Int), ()))), ())) (b := Sum.inl ((), ())) X.length
        (fun i hi R kn ko => step i hi (by simpa using k i hi) R kn ko)
        (fun R kn ko => by
          unfold st_91a_0
          dsimp only
          simp only [bif_dec]
          rw [if_neg (by omega)])
      have e : lim st_91a_0 ((X, (Y, ((0 : Int), ()))), ()) = _ := this
      rw [e]
      have he : X = Y := by
        apply List.ext_getElem h
        intro i h1 h2
        have := k i h1
        have q : gl X i = gl Y i := by simpa using this
        unfold gl at q
        rwa [gtd h1, gtd h2] at q
      rw [decide_eq_true he]; rfl
    · have := lim_seq (st := st_91a_0) (fun i => ((X, (Y, ((i : Int), ()))), ())) (b := Sum.inr ((false, ()), ())) k
        (fun i hi R kn ko => step i (by omega) (by simpa using h2 i hi) R kn ko)
        (fun R kn ko => by
          unfold st_91a_0
          dsimp only
          simp only [bif_dec, Int.toNat_natCast]
          rw [if_pos (by omega), if_pos (by omega), if_pos (by omega)]
          have : (X.getD k 0 != Y.getD k 0) = true := h3
          rw [this]; rfl)
      have e : lim st_91a_0 ((X, (Y, ((0 : Int), ()))), ()) = _ := this
      rw [e]
      have he : X ≠ Y := by intro q; rw [q] at h3; simp at h3
      rw [decide_eq_false he]; rfl
  · rw [if_neg (by omega)]
    have : X ≠ Y := fun q => h (by rw [q])
    rw [decide_eq_false this]
theorem tens_eq (a b : TsT) (hn : a.2.2.2.1.length < 4611686018427387904) : F_9b a b = some (decide (a = b)) := by
  obtain ⟨a1, a2, a3, a4, ⟨⟩⟩ := a
  obtain ⟨b1, b2, b3, b4, ⟨⟩⟩ := b
  unfold F_9b
  dsimp only
  simp only [List.take_length, bif_eq]
  rw [nums_eq a4 b4 hn]
  by_cases h1 : a1 = b1
  · by_cases h2 : a2 = b2
    · by_cases h3 : a3 = b3
      · rw [if_pos h1, if_pos h2, if_pos h3]; subst h1; subst h2; subst h3; simp
      · rw [if_pos h1, if_pos h2, if_neg h3]; simp [h3]
    · rw [if_pos h1, if_neg h2]; simp [h2]
  · rw [if_neg h1]; simp [h1]
theorem right_nat {a b f : Int} {l : List Int} (h : rightS (a, b, f, l, ()) = true) : ∃ R C : Nat, a = R ∧ b = C ∧ R ≤ 4096 ∧ C ≤ 4096 ∧ l.length = R * C ∧ knownS f = true ∧ l.all (fits f) = true := by
  unfold rightS at h
  simp only [Bool.and_eq_true, decide_eq_true_eq] at h
  obtain ⟨⟨h1, h2, h3, h4⟩, h5, h6, h7⟩ := h
  refine ⟨a.toNat, b.toNat, by omega, by omega, by omega, by omega, ?_, h5, h7⟩
  have e : ((l.length : Nat) : Int) = ((a.toNat * b.toNat : Nat) : Int) := by
    rw [h6]; push_cast; rw [Int.toNat_of_nonneg h1, Int.toNat_of_nonneg h3]
  exact_mod_cast e
theorem wideL_len (t : TsT) : (wideL t).length = t.2.2.2.1.length := by unfold wideL; simp
theorem wideL_wl (t : TsT) : wl (wideL t) := range_wl fun i => widen_w _ _
end Go.Proofs.YtfpjkmgfkaoapaaGreat.VI
