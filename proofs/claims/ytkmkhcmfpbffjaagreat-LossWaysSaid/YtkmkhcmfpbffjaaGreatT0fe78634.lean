import Derived.Test.YtkmkhcmfpbffjaaGreatT3e7b954d
namespace Go.Proofs.YtkmkhcmfpbffjaaGreat.VI
set_option linter.unusedVariables false
set_option linter.unusedSimpArgs false
set_option maxRecDepth 100000
set_option maxHeartbeats 8000000
theorem rfma_eq {a b c : Int} (ha : w32 a) (hb : w32 b) (hc : w32 c) : F_925 a b c = some (fma a b c) := by
  unfold F_925; rw [fmar_eq 2 0 ha hb hc]; rfl
theorem mulr_eq (f mode : Int) {a b : Int} (ha : w32 a) (hb : w32 b) : F_949 f mode a b = some (mulS f mode a b) := by
  have sm := sig_mul f a b
  have xa := xp_bd f a
  have xb := xp_bd f b
  have w1 : IntKind.i64.wrap (xp f a + xp f b) = xp f a + xp f b := wi64 (by omega)
  have w2 : IntKind.u64.wrap (sig f a * sig f b) = sig f a * sig f b := wu64 (by have := sm.1; omega)
  have hp := packr_eq f mode (!(sg f a == sg f b)) (xp f a + xp f b) sm.1 false
  rw [show min (max (xp f a + xp f b) (-10000)) 10000 = xp f a + xp f b by omega] at hp
  unfold F_949 mulS
  simp only [nans_eq f [a, b] (by simp) (by simpa using ⟨ha, hb⟩), zeror_eq f ha, zeror_eq f hb, infr_c f ha, infr_c f hb, negr_eq f ha, negr_eq f hb, nanr_w, infr_eq, unpackr_eq f ha, unpackr_eq f hb, Option.bind_some, List.any_cons, List.any_nil, Bool.or_false, w1, w2, hp]
  generalize pk f mode (!(sg f a == sg f b)) (xp f a + xp f b) (sig f a * sig f b) false = W
  rcases cls f a with ⟨a1, a3, a4⟩ | ⟨a1, a2, a3, a4⟩ | ⟨a1, a2, a3, a4⟩ | ⟨a1, a2, a3, a4⟩ <;> rcases cls f b with ⟨b1, b3, b4⟩ | ⟨b1, b2, b3, b4⟩ | ⟨b1, b2, b3, b4⟩ | ⟨b1, b2, b3, b4⟩ <;> simp only [a1, a3, a4, b1, b3, b4] <;> rfl
theorem zero_bits (f : Int) {a : Int} (ha : w32 a) (h : zr f a = true) : a % (2 * TT f) = sgn f (sg f a) := by
  have e : a % TT f = 0 := by unfold zr at h; simpa using h
  have s := sg_iff f a ha.1
  have b := mod_bd f a
  unfold sgn
  cases hs : sg f a
  · rw [hs] at s; simp at s ⊢; omega
  · have := s.1 hs; simp; omega
theorem addr_eq (f mode : Int) {a b : Int} (ha : w32 a) (hb : w32 b) : F_944 f mode a b = some (addS f mode a b) := by
  have xa := xp_bd f a
  have xb := xp_bd f b
  obtain ⟨L, K, hL, hK, lL, lK, ht⟩ := rsum_eq f mode (sg f a) (sg f b) (N := sig f a) (M := sig f b) (sig_48 f a) (sig_48 f b) (show -298 ≤ xp f a ∧ xp f a ≤ 260 by omega) (show -298 ≤ xp f b ∧ xp f b ≤ 260 by omega)
  have hst := sum_tot f mode (sg f a) (sg f b) (e := xp f a) (d := xp f b) (sig_48 f a).1 (sig_48 f b).1
  have hfin : nan f a = false → inff f a = false → nan f b = false → inff f b = false →
      sumS f mode (sg f a) (xp f a) (sig f a) (sg f b) (xp f b) (sig f b) = bif zr f a && (zr f b && (sg f a == sg f b)) then (sgn f (sg f a), EXC0, ()) else totS f mode (sv (sg f a) (sig f a * 2 ^ (xp f a + 298).toNat) + sv (sg f b) (sig f b * 2 ^ (xp f b + 298).toNat)) := by
    intro a1 a4 b1 b4
    rw [hst]
    have ea := sig_zero f a a1 a4
    have eb := sig_zero f b b1 b4
    by_cases h : sig f a = 0 ∧ sig f b = 0 ∧ sg f a = sg f b
    · rw [if_pos h, ea.1 h.1, eb.1 h.2.1, h.2.2]; simp
    · rw [if_neg h]
      have : (zr f a && (zr f b && (sg f a == sg f b))) = false := by
        apply Bool.eq_false_iff.2; intro k; apply h
        simp only [Bool.and_eq_true, beq_iff_eq] at k
        exact ⟨ea.2 k.1, eb.2 k.2.1, k.2.2⟩
      rw [this]; rfl
  have ia := inf_bits f ha
  have ib := inf_bits f hb
  have za := zero_bits f ha
  unfold F_944 addS
  simp only [nans_eq f [a, b] (by simp) (by simpa using ⟨ha, hb⟩), zeror_eq f ha, zeror_eq f hb, infr_c f ha, infr_c f hb, negr_eq f ha, negr_eq f hb, nanr_w, infr_eq, maskr_eq, unpackr_eq f ha, unpackr_eq f hb, Option.bind_some, List.any_cons, List.any_nil, Bool.or_false, hL, hK, len10 lL, len10 lK, ht, and_TT f ha.1 ha.2, and_TT f hb.1 hb.2]
  generalize totS f mode _ = W at *
  generalize sumS f mode _ _ _ _ _ _ = SW at *
  rcases cls f a with ⟨a1, a3, a4⟩ | ⟨a1, a2, a3, a4⟩ | ⟨a1, a2, a3, a4⟩ | ⟨a1, a2, a3, a4⟩ <;> rcases cls f b with ⟨b1, b3, b4⟩ | ⟨b1, b2, b3, b4⟩ | ⟨b1, b2, b3, b4⟩ | ⟨b1, b2, b3, b4⟩ <;> simp only [a1, a3, a4, b1, b3, b4, cond_true, cond_false, Bool.or_true, Bool.true_or, Bool.or_false, Bool.false_or, Bool.and_true, Bool.and_false, Bool.true_and, Bool.false_and, if_true, if_false, Bool.false_eq_true] at hfin ⊢
  all_goals first
    | rfl
    | (rw [ia a4]; done)
    | (rw [ib b4]; done)
    | (rw [ia a4]; rfl)
    | (rw [ib b4]; rfl)
    | (rw [hfin trivial trivial trivial trivial]; done)
    | (rw [ia a4]; cases sg f a <;> cases sg f b <;> rfl)
    | (rw [hfin trivial trivial trivial trivial, za a3]; cases (sg f a == sg f b) <;> rfl)
    | (rw [hfin trivial trivial trivial trivial]; rfl)
noncomputable def O_920 : Orc := c_91f
theorem okO_920 : OrcOk PR O_920 := ok_91f
abbrev fa_920 : Fm := (.pair (.i .u32) .unit)
abbrev fr_920 : Fm := .b
noncomputable def F_920 (a0 : Int) : Option (Bool) :=
 ((F_91f (2:Int) a0)).bind fun r0 =>
 bif (r0 == (4:Int)) then
 (some true)
 else
 (some (r0 == (5:Int)))
noncomputable def G_920 : T fa_920 → TH hN0 → Option (Bool) := fun x y => F_920 x.1
noncomputable def c_920 : Orc := ent i_920 [] 0 (sp fa_920 hN0 fr_920 hN0 G_920 (outN fr_920))
theorem ok_920 : OrcOk PR c_920 := fnT okO_920 mixed p_920 (by kernel_rfl) (by kernel_rfl) (L := L0) (kp := false) (by kernel_rfl) (inn := (innN fr_920)) (out := (outN fr_920)) (fun _ _ => rfl) (loopsL (l := []) (by kernel_rfl) trivial) (fun x y => by kernel_rfl)
noncomputable def O_924 : Orc := c_925
theorem okO_924 : OrcOk PR O_924 := ok_925
abbrev fa_924 : Fm := (.pair (.i .u32) (.pair (.i .u32) (.pair (.si .u32) .unit)))
abbrev fr_924 : Fm := (.i .u32)
abbrev ff_924_0 : Fm := (.pair (.i .u32) (.pair (.i .u32) (.pair (.si .u32) (.us 4 (.pair (.i .i64) (.us 14 .unit))))))
abbrev hf_924_0 : List BF := []
abbrev X_924_0 : Xs := (.one (.exit 0) [0] (.pair (.i .u32) (.us 21 .unit)) [])
abbrev S_924_0 : Type := T ff_924_0 × TH hf_924_0
abbrev E_924_0 : Type := TX X_924_0
noncomputable def LB_924_0 : Lps := L0
noncomputable def st_924_0 : StepT S_924_0 E_924_0 := fun R v kn ko =>
 let x0 : Int := v.1.1
 let x1 : Int := v.1.2.1
 let x2 : List Int := v.1.2.2.1
 let x3 : Int := v.1.2.2.2.1
 bif (decide (x3 < (((List.length x2) : Nat) : Int))) then
 bif (decide (((0:Int) ≤ x3) ∧ (x3 < (((List.length x2) : Nat) : Int)))) then
 ((F_925 x0 x1 (List.getD x2 (Int.toNat x3) (0:Int)))).bind fun r4 =>
 (kn ((r4, (x1, ((List.take (List.length x2) x2), ((IntKind.wrap .i64 (x3 + (1:Int))), ())))), ()))
 else
 none
 else
 (ko ((x0, ()), ()))
noncomputable def ls_924_0 : St → LTr := (lsum ff_924_0 hf_924_0 X_924_0 Prod.mk id st_924_0 (hd [] [] [0, 1, 2, 7] 0))
theorem lp_924_0 : LoopOk PR 0 (lpN f_924 0) ls_924_0 := loopT okO_924 mixed (L := LB_924_0) (d := 1) (bs := []) (ks := [0, 1, 2, 7]) (loopsL (l := []) (by kernel_rfl) trivial) (by kernel_rfl) (inS := Prod.mk) (outS := id) (fun _ _ => rfl) (inX := id) (outX := id) (fun _ => rfl) (fun v R kn ko => by kernel_rfl) (hd_wk [] [] [0, 1, 2, 7] 0)
noncomputable def L_924 : Lps := (lpB 3 (.by_ ls_924_0) L0)
noncomputable def F_924 (a0 : Int) (a1 : Int) (a2 : List Int) : Option (Int) :=
 ((lim st_924_0 ((a0, (a1, ((List.take (List.length a2) a2), ((0:Int), ())))), ()))).bind fun r0 =>
 (some r0.1.1)
noncomputable def G_924 : T fa_924 → TH hN0 → Option (Int) := fun x y => F_924 x.1 x.2.1 x.2.2.1
noncomputable def c_924 : Orc := ent i_924 [] 0 (sp fa_924 hN0 fr_924 hN0 G_924 (outN fr_924))
theorem ok_924 : OrcOk PR c_924 := fnT okO_924 mixed p_924 (by kernel_rfl) (by kernel_rfl) (L := L_924) (kp := false) (by kernel_rfl) (inn := (innN fr_924)) (out := (outN fr_924)) (fun _ _ => rfl) (loopsL (l := [((lpN f_924 0), ls_924_0)]) (by kernel_rfl) ⟨lp_924_0, trivial⟩) (fun x y => by kernel_rfl)
noncomputable def O_91d : Orc := (orm c_945 c_944)
theorem okO_91d : OrcOk PR O_91d := (orm_ok ok_945 ok_944)
abbrev fa_91d : Fm := (.pair (.i .i64) (.pair (.i .i64) (.pair (.i .u32) (.pair (.i .u32) .unit))))
abbrev fr_91d : Fm := (.tup (.pair (.i .u32) (.pair (.agg (.pair .b (.pair .b (.pair .b (.pair .b (.pair .b .unit)))))) .unit)))
noncomputable def F_91d (a0 : Int) (a1 : Int) (a2 : Int) (a3 : Int) : Option (Int × (Bool × Bool × Bool × Bool × Bool × Unit) × Unit) :=
 ((F_945 a0 a3)).bind fun r0 =>
 ((F_944 a0 a1 a2 r0)).bind fun r1 =>
 (some r1)
noncomputable def G_91d : T fa_91d → TH hN0 → Option (Int × (Bool × Bool × Bool × Bool × Bool × Unit) × Unit) := fun x y => F_91d x.1 x.2.1 x.2.2.1 x.2.2.2.1
noncomputable def c_91d : Orc := ent i_91d [] 0 (sp fa_91d hN0 fr_91d hN0 G_91d (outN fr_91d))
theorem ok_91d : OrcOk PR c_91d := fnT okO_91d mixed p_91d (by kernel_rfl) (by kernel_rfl) (L := L0) (kp := false) (by kernel_rfl) (inn := (innN fr_91d)) (out := (outN fr_91d)) (fun _ _ => rfl) (loopsL (l := []) (by kernel_rfl) trivial) (fun x y => by kernel_rfl)
noncomputable def O_9b : Orc := c_91d
theorem okO_9b : OrcOk PR O_9b := ok_91d
abbrev fa_9b : Fm := (.pair (.i .u32) (.pair (.i .u32) .unit))
abbrev fr_9b : Fm := (.i .u32)
noncomputable def F_9b (a0 : Int) (a1 : Int) : Option (Int) :=
 ((F_91d (2:Int) (0:Int) a0 a1)).bind fun r0 =>
 (some r0.1)
noncomputable def G_9b : T fa_9b → TH hN0 → Option (Int) := fun x y => F_9b x.1 x.2.1
noncomputable def c_9b : Orc := ent i_9b [] 0 (sp fa_9b hN0 fr_9b hN0 G_9b (outN fr_9b))
theorem ok_9b : OrcOk PR c_9b := fnT okO_9b mixed p_9b (by kernel_rfl) (by kernel_rfl) (L := L0) (kp := false) (by kernel_rfl) (inn := (innN fr_9b)) (out := (outN fr_9b)) (fun _ _ => rfl) (loopsL (l := []) (by kernel_rfl) trivial) (fun x y => by kernel_rfl)
noncomputable def O_9c : Orc := (orm c_91e (orm c_91f (orm c_920 (orm c_921 (orm c_922 (orm c_9b (orm c_923 (orm c_98 (orm c_924 (orm c_925 c_99))))))))))
theorem okO_9c : OrcOk PR O_9c := (orm_ok ok_91e (orm_ok ok_91f (orm_ok ok_920 (orm_ok ok_921 (orm_ok ok_922 (orm_ok ok_9b (orm_ok ok_923 (orm_ok ok_98 (orm_ok ok_924 (orm_ok ok_925 ok_99))))))))))
abbrev fa_9c : Fm := (.pair (.i .u32) .unit)
abbrev fr_9c : Fm := (.i .u32)
abbrev ff_9c_0 : Fm := (.us 4 (.pair (.i .i64) (.pair (.i .u64) (.us 72 .unit))))
abbrev hf_9c_0 : List BF := []
abbrev X_9c_0 : Xs := (.one (.exit 1) [4, 5] (.us 4 (.pair (.i .i64) (.pair (.i .u64) (.us 72 .unit)))) [])
abbrev S_9c_0 : Type := T ff_9c_0 × TH hf_9c_0
abbrev E_9c_0 : Type := TX X_9c_0
noncomputable def LB_9c_0 : Lps := L0
noncomputable def st_9c_0 : StepT S_9c_0 E_9c_0 := fun R v kn ko =>
 bif (decide (v.1.2.1 < (8388608:Int))) then
 (kn (((IntKind.wrap .i64 (v.1.1 - (1:Int))), ((IntKind.wrap .u64 (v.1.2.1 * (2:Int))), ())), ()))
 else
 (ko v)
noncomputable def ls_9c_0 : St → LTr := (lsum ff_9c_0 hf_9c_0 X_9c_0 Prod.mk id st_9c_0 (hd [] [] [4, 5] 0))
theorem lp_9c_0 : LoopOk PR 0 (lpN f_9c 0) ls_9c_0 := loopT okO_9c mixed (L := LB_9c_0) (d := 1) (bs := []) (ks := [4, 5]) (loopsL (l := []) (by kernel_rfl) trivial) (by kernel_rfl) (inS := Prod.mk) (outS := id) (fun _ _ => rfl) (inX := id) (outX := id) (fun _ => rfl) (fun v R kn ko => by kernel_rfl) (hd_wk [] [] [4, 5] 0)
noncomputable def L_9c : Lps := (lpB 12 (.by_ ls_9c_0) L0)
noncomputable def F_9c (a0 : Int) : Option (Int) :=
 let x0 : List Int := [(1049774373:Int), (1053609165:Int), (1059760811:Int)]
 ((F_91e (2:Int) a0)).bind fun r1 =>
 ((F_91f (2:Int) a0)).bind fun r2 =>
 ((F_920 a0)).bind fun r3 =>
 bif r3 then
 (some (2143289344:Int))
 else
 bif (r2 == (0:Int)) then
 (some (4286578688:Int))
 else
 bif r1.1 then
 (some (2143289344:Int))
 else
 bif (r2 == (3:Int)) then
 (some (2139095040:Int))
 else
 ((lim st_9c_0 (r1.2, ()))).bind fun r4 =>
 let x5 : Int := (bits .or .u32 (1065353216:Int) (IntKind.wrap .u32 (bits .and .u64 r4.1.2.1 (8388607:Int))))
 let x6 : Int := (IntKind.wrap .i64 (r4.1.1 + (23:Int)))
 ((F_921 x5 (1068827891:Int))).bind fun r7 =>
 bif r7 then
 ((F_922 x5 (1056964608:Int))).bind fun r8 =>
 ((F_9b r8 (1065353216:Int))).bind fun r9 =>
 ((F_923 (1073741824:Int) r9)).bind fun r10 =>
 ((F_98 r9 r10)).bind fun r11 =>
 ((F_922 r11 r11)).bind fun r12 =>
 ((F_924 (1046711865:Int) r12 x0)).bind fun r13 =>
 ((F_922 r13 r12)).bind fun r14 =>
 ((F_923 r11 r11)).bind fun r15 =>
 ((F_925 r11 r14 r15)).bind fun r16 =>
 ((F_99 (IntKind.wrap .i64 (x6 + (1:Int))))).bind fun r17 =>
 ((F_925 r17 (901758606:Int) r16)).bind fun r18 =>
 ((F_925 r17 (1060205056:Int) r18)).bind fun r19 =>
 (some r19)
 else
 ((F_9b x5 (1065353216:Int))).bind fun r20 =>
 ((F_923 (1073741824:Int) r20)).bind fun r21 =>
 ((F_98 r20 r21)).bind fun r22 =>
 ((F_922 r22 r22)).bind fun r23 =>
 ((F_924 (1046711865:Int) r23 x0)).bind fun r24 =>
 ((F_922 r24 r23)).bind fun r25 =>
 ((F_923 r22 r22)).bind fun r26 =>
 ((F_925 r22 r25 r26)).bind fun r27 =>
 ((F_99 x6)).bind fun r28 =>
 ((F_925 r28 (901758606:Int) r27)).bind fun r29 =>
 ((F_925 r28 (1060205056:Int) r29)).bind fun r30 =>
 (some r30)
noncomputable def G_9c : T fa_9c → TH hN0 → Option (Int) := fun x y => F_9c x.1
noncomputable def c_9c : Orc := ent i_9c [] 0 (sp fa_9c hN0 fr_9c hN0 G_9c (outN fr_9c))
theorem ok_9c : OrcOk PR c_9c := fnT okO_9c mixed p_9c (by kernel_rfl) (by kernel_rfl) (L := L_9c) (kp := false) (by kernel_rfl) (inn := (innN fr_9c)) (out := (outN fr_9c)) (fun _ _ => rfl) (loopsL (l := [((lpN f_9c 0), ls_9c_0)]) (by kernel_rfl) ⟨lp_9c_0, trivial⟩) (fun x y => by kernel_rfl)
set_option exponentiation.threshold 2000
theorem rmul_eq {a b : Int} (ha : w32 a) (hb : w32 b) : F_922 a b = some (mulf a b) := by
  unfold F_922; rw [mulr_eq 2 0 ha hb]; rfl
theorem radd_eq {a b : Int} (ha : w32 a) (hb : w32 b) : F_923 a b = some (addf a b) := by
  unfold F_923; rw [addr_eq 2 0 ha hb]; rfl
theorem rabove_eq {a b : Int} (ha : w32 a) (hb : w32 b) : F_921 a b = some (lt 2 b a) := by
  unfold F_921; rw [lessr_eq 2 hb ha]; rfl
theorem rnan_eq {a : Int} (ha : w32 a) : F_920 a = some (nan 2 a) := by
  have kb := kl_le 2 a
  have kn := kl_nan 2 a
  unfold F_920
  rw [classr_eq 2 ha.1 ha.2]
  simp only [Option.bind_some]
  have : nan 2 a = decide (kl 2 a ≥ 4) := by unfold nan; exact decide_eq_decide.2 kn.symm
  rw [this]
  generalize kl 2 a = k at *
  rw [bif_eq]
  by_cases h : k = 4
  · rw [if_pos h]; subst h; rfl
  · rw [if_neg h]; congr 1; rw [Bool.eq_iff_iff]; simp; omega
theorem mask2 {a : Int} (h : w32 a) : a % (2 * TT 2) = a := by
  have h1 := h.1
  have h2 := h.2
  show a % 4294967296 = a
  omega
theorem rsub_eq {a b : Int} (ha : w32 a) (hb : w32 b) : F_9b a b = some (subf a b) := by
  unfold F_9b F_91d
  rw [minusr_eq 2 hb]
  simp only [Option.bind_some]
  have wm : w32 (if nan 2 b = true then b % (2 * TT 2) else turnS 2 b) := by
    split
    · rw [mask2 hb]; exact hb
    · exact turn2_w hb
  rw [addr_eq 2 0 ha wm]
  simp only [Option.bind_some]
  congr 1
  unfold subf subS
  cases h : nan 2 b
  · simp only [Bool.false_eq_true, if_false, Bool.or_false]
    cases h2 : nan 2 a
    · rfl
    · unfold addS; rw [h2]; rfl
  · simp only [if_true, Bool.or_true]
    unfold addS; rw [mask2 hb, h]; simp
theorem ralong_eq {x p : Int} (hx : w32 x) (hp : w32 p) (l : List Int) (hl : ∀ c ∈ l, w32 c) (hn : l.length ≤ 100) : F_924 p x l = some (polyS x p l) := by
  have key := lim_seq (st := st_924_0) (fun i => ((polyS x p (l.take i), (x, (l, ((i : Int), ())))), ())) (b := ((polyS x p (l.take l.length), ()), ())) l.length
    (fun i hi R kn ko => by
      unfold st_924_0
      dsimp only
      simp only [List.take_length, bif_dec, Int.toNat_natCast]
      rw [if_pos (by omega), if_pos (by omega), rfma_eq (polyS_w hp _) hx (by
        rw [List.getD_eq_getElem?_getD, List.getElem?_eq_getElem hi]; exact hl _ (List.getElem_mem hi)), take_foldl l hi]
      simp only [Option.bind_some]
      rw [wi64 (n := (i : Int) + 1) (by omega), show ((i + 1 : Nat) : Int) = (i : Int) + 1 by omega])
    (fun R kn ko => by
      unfold st_924_0
      dsimp only
      simp only [List.take_length, bif_dec]
      rw [if_neg (by omega)])
  unfold F_924
  rw [List.take_length]
  rw [show polyS x p (l.take 0) = p from rfl] at key
  rw [List.take_length] at key
  exact (congrArg (fun o => Option.bind o fun r0 => some r0.1.1) key)
theorem log_loop {m e : Int} (h0 : 0 < m) (h1 : m < 16777216) (hx : -100000 ≤ e ∧ e ≤ 100000) :
    lim st_9c_0 ((e, (m, ())), ()) = some ((e - ((23 - lg m : Nat) : Int), (m * 2 ^ (23 - lg m), ())), ()) := by
  obtain ⟨b1, b2, b3⟩ := norm_bd h0 h1
  have hb := lg_bd (k := 24) h0 (by have : (2 : Int) ^ 24 = 16777216 := rfl; omega)
  have := lim_seq (st := st_9c_0) (fun i => ((e - (i : Int), (m * 2 ^ i, ())), ())) (b := ((e - ((23 - lg m : Nat) : Int), (m * 2 ^ (23 - lg m), ())), ())) (23 - lg m)
    (fun i hi R kn ko => by
      have h3 := b3 i hi
      have h4 : 0 < m * 2 ^ i := Int.mul_pos h0 (p2_pos i)
      unfold st_9c_0
      dsimp only
      rw [bif_dec, if_pos h3, wi64 (by omega), wu64 (by omega), show m * 2 ^ i * 2 = m * 2 ^ (i + 1) by rw [p2_succ, Int.mul_comm 2, Int.mul_assoc], show e - (i : Int) - 1 = e - ((i + 1 : Nat) : Int) by omega])
    (fun R kn ko => by
      unfold st_9c_0
      dsimp only
      rw [bif_dec, if_neg (Int.not_lt.2 b1)])
  simpa using this
theorem near_one {M : Int} (h0 : 8388608 ≤ M) (h1 : M < 16777216) : fnt (1065353216 + (M - 8388608)) ∧ xp 2 (1065353216 + (M - 8388608)) = -23 ∧ sig 2 (1065353216 + (M - 8388608)) = M ∧ sg 2 (1065353216 + (M - 8388608)) = false := by
  have w : w32 (1065353216 + (M - 8388608)) := ⟨by omega, by omega⟩
  obtain ⟨c1, c2, c3, c4, c5, c6⟩ := cs2
  refine ⟨⟨w, by omega⟩, ?_, ?_, ?_⟩
  · unfold xp ex; rw [c1, c2, c3, c6, show (1065353216 + (M - 8388608)) / 8388608 % 256 = 127 by omega]; decide
  · unfold sig ex ff; rw [c1, c3, show (1065353216 + (M - 8388608)) / 8388608 % 256 = 127 by omega, show (1065353216 + (M - 8388608)) % 8388608 = M - 8388608 by omega]; simp
  · rw [sgd w]; exact decide_eq_false (by omega)
theorem scalef_pk {a : Int} (n : Int) (fa : fnt a) (hz : zr 2 a = false) : scalef a n = (pk 2 0 (sg 2 a) (xp 2 a + min (max n (-5000)) 5000) (sig 2 a) false).1 := by
  unfold scalef scaleS; rw [fin_nan fa, fin_inf fa, hz]; rfl
theorem log_m {x : Int} (fx : fnt x) (hz : zr 2 x = false) (hs : sg 2 x = false) : scalef x (-logE x) = 1065353216 + (sig 2 x * 2 ^ (23 - lg (sig 2 x)) - 8388608) := by
  have s0 : sig 2 x ≠ 0 := fun k => by rw [(sig_zero 2 x (fin_nan fx) (fin_inf fx)).1 k] at hz; cases hz
  have sb := sig_bd 2 x
  have xa := xp_bd 2 x
  have hp : 0 < sig 2 x := by omega
  have c24 : (2 : Int) ^ 24 = 16777216 := rfl
  have hl := lg_bd (k := 24) hp (by have := sb.2; rw [show BB 2 = 8388608 from rfl] at this; omega)
  obtain ⟨b1, b2, -⟩ := norm_bd hp (by have := sb.2; rw [show BB 2 = 8388608 from rfl] at this; omega)
  obtain ⟨n1, n2, n3, n4⟩ := near_one b1 b2
  have hr := pk_round 2 0 (s := 1065353216 + (sig 2 x * 2 ^ (23 - lg (sig 2 x)) - 8388608)) ⟨n1.1.1, by show _ < 2 * 2147483648; omega⟩ (fin_nan n1) (fin_inf n1)
  rw [n2, n3, n4, pk_shift 2 0 false _ _ _ sb.1] at hr
  rw [scalef_pk _ fx hz, hs]
  unfold logE
  rw [ln_pos hp]
  rw [show xp 2 x + min (max (-(xp 2 x + ((lg (sig 2 x) : Int) + 1) - 1)) (-5000)) 5000 = -23 + ((23 - lg (sig 2 x) : Nat) : Int) by omega, hr]
theorem half_eq {v : Int} (fv : fnt v) (hz : zr 2 v = false) : mulf v 1056964608 = scalef v (-1) := by
  rw [scalef_pk _ fv hz]
  have sb := sig_bd 2 v
  unfold mulf mulS
  rw [fin_nan fv, fin_inf fv, hz, show nan 2 1056964608 = false by decide, show inff 2 1056964608 = false by decide, show sg 2 1056964608 = false by decide, show xp 2 1056964608 = -24 by decide, show sig 2 1056964608 = 2 ^ 23 by decide]
  simp only [Bool.or_false, Bool.and_false, Bool.false_and, Bool.false_eq_true, if_false]
  rw [pk_shift 2 0 _ _ _ _ sb.1]
  have e1 : (!(sg 2 v == false)) = sg 2 v := by cases sg 2 v <;> rfl
  rw [e1]
  congr 2
  omega
theorem rlog_eq {x : Int} (h : w32 x) : F_9c x = some (logS x) := by
  have xa := xp_bd 2 x
  have sb := sig_bd 2 x
  have hr : ∀ e m : Int, w32 m → -10000 ≤ e ∧ e ≤ 10000 →
      ((F_9b m (1065353216:Int)).bind fun r22 =>
            (F_923 (1073741824:Int) r22).bind fun r23 =>
            (F_98 r22 r23).bind fun r24 =>
            (F_922 r24 r24).bind fun r25 =>
            (F_924 (1046711865:Int) r25 [(1049774373:Int), (1053609165:Int), (1059760811:Int)]).bind fun r26 =>
            (F_922 r26 r25).bind fun r27 =>
            (F_923 r24 r24).bind fun r28 =>
            (F_925 r24 r27 r28).bind fun r29 =>
            (F_99 e).bind fun r30 =>
            (F_925 r30 (901758606:Int) r29).bind fun r31 =>
            (F_925 r30 (1060205056:Int) r31).bind fun r32 =>
            (some r32)) = some (logK e m) := by
    intro e m hm he
    rw [rsub_eq hm (wlit rfl)]
    simp only [Option.bind_some]
    rw [radd_eq (wlit rfl) (subf_w _ _)]
    simp only [Option.bind_some]
    rw [rdiv_eq (subf_w _ _) (addf_w _ _)]
    simp only [Option.bind_some]
    rw [rmul_eq (divf_w _ _) (divf_w _ _)]
    simp only [Option.bind_some]
    rw [ralong_eq (mulf_w _ _) (wlit rfl) _ (by decide) (by decide)]
    simp only [Option.bind_some]
    rw [rmul_eq (polyS_w (wlit rfl) _) (mulf_w _ _), radd_eq (divf_w _ _) (divf_w _ _)]
    simp only [Option.bind_some]
    rw [rfma_eq (divf_w _ _) (mulf_w _ _) (addf_w _ _), rint_eq (by omega)]
    simp only [Option.bind_some]
    rw [rfma_eq (intf_w _) (wlit rfl) (fma_w _ _ _)]
    simp only [Option.bind_some]
    rw [rfma_eq (intf_w _) (wlit rfl) (fma_w _ _ _)]
    rfl
  have kz : (kl 2 x == 0) = zr 2 x := by
    have := kl_zero 2 x
    unfold zr; rw [Bool.eq_iff_iff]; simp; exact this
  have ki : (kl 2 x == 3) = inff 2 x := by
    have := kl_inf 2 x
    unfold inff; rw [Bool.eq_iff_iff]; simp; exact this
  unfold F_9c logS
  rw [unpackr_eq 2 h, classr_eq 2 h.1 h.2, rnan_eq h]
  simp only [Option.bind_some]
  rw [kz, ki]
  cases h0 : nan 2 x
  · cases h1 : zr 2 x
    · cases h2 : sg 2 x
      · cases h3 : inff 2 x
        · simp only [cond_false, Bool.false_eq_true, if_false]
          have fx : fnt x := num_cls h h0 h3
          have s0 : sig 2 x ≠ 0 := fun k => by rw [(sig_zero 2 x h0 h3).1 k] at h1; cases h1
          have hp : 0 < sig 2 x := by omega
          have c24 : (2 : Int) ^ 24 = 16777216 := rfl
          have hl := lg_bd (k := 24) hp (by have := sb.2; rw [show BB 2 = 8388608 from rfl] at this; omega)
          obtain ⟨b1, b2, -⟩ := norm_bd hp (by have := sb.2; rw [show BB 2 = 8388608 from rfl] at this; omega)
          rw [log_loop hp (by have := sb.2; rw [show BB 2 = 8388608 from rfl] at this; omega) (by omega)]
          simp only [Option.bind_some]
          have em := log_m fx h1 h2
          have e1 : bits .or .u32 1065353216 (IntKind.wrap .u32 (bits .and .u64 (sig 2 x * 2 ^ (23 - lg (sig 2 x))) 8388607)) = scalef x (-logE x) := by
            rw [em]
            obtain ⟨n1, -⟩ := near_one b1 b2
            have hw : ∀ M : Int, 8388608 ≤ M → M < 16777216 → bits .and .u64 M 8388607 = M - 8388608 := by
              intro M m1 m2
              have := bits_and (k := .u64) rfl (a := M.toNat) (b := 8388607) (by show M.toNat < 2 ^ 64; omega) (by decide)
              rw [show ((M.toNat : Nat) : Int) = M by omega] at this
              rw [show (8388607 : Int) = ((8388607 : Nat) : Int) from rfl, this, show (8388607 : Nat) = 2 ^ 23 - 1 from rfl, Nat.and_two_pow_sub_one_eq_mod]
              omega
            rw [hw _ b1 b2, wu32 (by omega), or_join32 1065353216 _ 23 (by decide) (by decide) (by omega) (by have : (2 : Int) ^ 23 = 8388608 := rfl; omega) (by decide) (by decide)]
          have e2 : xp 2 x - ((23 - lg (sig 2 x) : Nat) : Int) + 23 = logE x := by unfold logE; rw [ln_pos hp]; omega
          have be : -1000 ≤ logE x ∧ logE x ≤ 1000 := by unfold logE; rw [ln_pos hp]; omega
          rw [wi64 (n := xp 2 x - ((23 - lg (sig 2 x) : Nat) : Int) + 23) (by omega), e1, e2, wi64 (n := logE x + 1) (by omega), rabove_eq (scalef_w _ _) (wlit rfl), rmul_eq (scalef_w _ _) (wlit rfl)]
          simp only [Option.bind_some]
          have fm : fnt (scalef x (-logE x)) ∧ zr 2 (scalef x (-logE x)) = false := by
            rw [em]
            obtain ⟨n1, -⟩ := near_one b1 b2
            refine ⟨n1, ?_⟩
            unfold zr; exact decide_eq_false (by show ¬ ((1065353216 + (sig 2 x * 2 ^ (23 - lg (sig 2 x)) - 8388608)) % 2147483648 = 0); omega)
          rw [half_eq fm.1 fm.2, hr _ _ (scalef_w _ _) (by omega), hr _ _ (scalef_w _ _) (by omega)]
          unfold logM
          cases lt 2 1068827891 (scalef x (-logE x)) <;> rfl
        · have : x = 2139095040 := by
            unfold inff at h3; rw [sgd h] at h2
            rw [show TT 2 = 2147483648 from rfl, show IN 2 = 2139095040 from rfl, decide_eq_true_iff] at h3
            rw [decide_eq_false_iff_not] at h2
            have := h.1
            omega
          rw [this]; rfl
      · rfl
    · rfl
  · rfl
set_option maxHeartbeats 4000000
abbrev gl (l : List Int) (i : Nat) : Int := l.getD i 0
def rowL (l : List Int) (C i : Nat) : List Int := (l.drop (i * C)).take C
theorem rowL_len {l : List Int} {R C i : Nat} (hl : l.length = R * C) (hi : i < R) : (rowL l C i).length = C := by
  have : (i + 1) * C ≤ R * C := Nat.mul_le_mul_right _ hi
  rw [Nat.add_mul] at this
  unfold rowL; simp; omega
theorem rowL_wl {l : List Int} {C i : Nat} (h : wl l) : wl (rowL l C i) := fun a ha => h a (List.mem_of_mem_drop (List.mem_of_mem_take ha))
theorem line_eq (f : Int) (l : List Int) (R C i : Nat) (hR : R ≤ 4096) (hC : C ≤ 4096) (hl : l.length = R * C) (hi : i < R) : F_98f ((R : Int), (C : Int), f, l, ()) (i : Int) = some (rowL l C i) := by
  have h1 : (i + 1) * C ≤ R * C := Nat.mul_le_mul_right _ hi
  have h2 : R * C ≤ 4096 * 4096 := Nat.mul_le_mul hR hC
  have h3 : i * C ≤ (i + 1) * C := Nat.mul_le_mul_right _ (by omega)
  have e1 : ((i : Int) * (C : Int)) = ((i * C : Nat) : Int) := by simp
  have e2 : (((i : Int) + 1) * (C : Int)) = (((i + 1) * C : Nat) : Int) := by simp
  unfold F_98f
  dsimp only
  rw [wi64 (n := (i : Int) + 1) (by omega), e1, e2, wi64 (n := ((i * C : Nat) : Int)) (by omega), wi64 (n := (((i + 1) * C : Nat) : Int)) (by omega), bif_dec, if_pos (by omega), Int.toNat_natCast, Int.toNat_natCast]
  have e3 : (i + 1) * C - i * C = C := by rw [Nat.add_mul]; omega
  rw [e3, List.take_take, Nat.min_self]; rfl
theorem rc_bd {R C : Nat} (hR : R ≤ 4096) (hC : C ≤ 4096) : R * C ≤ 16777216 := Nat.mul_le_mul hR hC
theorem right_nat {a b f : Int} {l : List Int} (h : rightS (a, b, f, l, ()) = true) : ∃ R C : Nat, a = R ∧ b = C ∧ R ≤ 4096 ∧ C ≤ 4096 ∧ l.length = R * C ∧ knownS f = true ∧ l.all (fits f) = true := by
  unfold rightS at h
  simp only [Bool.and_eq_true, decide_eq_true_eq] at h
  obtain ⟨⟨h1, h2, h3, h4⟩, h5, h6, h7⟩ := h
  refine ⟨a.toNat, b.toNat, by omega, by omega, by omega, by omega, ?_, h5, h7⟩
  have e : ((l.length : Nat) : Int) = ((a.toNat * b.toNat : Nat) : Int) := by
    rw [h6]; push_cast; rw [Int.toNat_of_nonneg h1, Int.toNat_of_nonneg h3]
  exact_mod_cast e
theorem right_mk {R C : Nat} {f : Int} {l : List Int} (hR : R ≤ 4096) (hC : C ≤ 4096) (hl : l.length = R * C) (hf : knownS f = true) (ha : l.all (fits f) = true) : rightS ((R : Int), (C : Int), f, l, ()) = true := by
  unfold rightS
  simp only [Bool.and_eq_true, decide_eq_true_eq]
  refine ⟨⟨by omega, by omega, by omega, by omega⟩, hf, ?_, ha⟩
  rw [hl]; simp
theorem wideL_len (t : TsT) : (wideL t).length = t.2.2.2.1.length := by unfold wideL; simp
theorem wideL_wl (t : TsT) : wl (wideL t) := range_wl fun i => widen_w _ _
end Go.Proofs.YtkmkhcmfpbffjaaGreat.VI
