import Derived.Test.YtfpjkmgfkaoapaaT51559985
namespace Go.Proofs.Ytfpjkmgfkaoapaa.VI
set_option linter.unusedVariables false
set_option linter.unusedSimpArgs false
set_option maxRecDepth 100000
set_option maxHeartbeats 4000000
theorem parts_val (f : Int) {s : Int} (h : wf f s) : s = sgn f (sg f s) + ex f s * BB f + ff f s := by
  have e := ex_fr f s
  have hs := sg_iff f s h.1
  have hm := mod_bd f s
  have e2 : s % (2 * TT f) = s := Int.emod_eq_of_lt h.1 h.2
  rw [e2] at hs hm
  unfold sgn
  cases hq : sg f s
  · rw [hq] at hs; simp at hs ⊢; omega
  · have := hs.1 hq; simp; omega
theorem fin_ex (f : Int) {s : Int} (hn : nan f s = false) (hi : inff f s = false) : ex f s < RR f - 1 := by
  rw [ex_fin]
  unfold nan at hn; unfold inff at hi
  simp only [decide_eq_false_iff_not] at hn hi
  omega
theorem up_no (mode : Int) (n o : Bool) : upS mode n o false false = false := by
  unfold upS
  (repeat' split) <;> cases n <;> rfl
theorem pk_round (f mode : Int) {s : Int} (h : wf f s) (hn : nan f s = false) (hi : inff f s = false) : pk f mode (sg f s) (xp f s) (sig f s) false = (s, EXC0, ()) := by
  have hv := parts_val f h
  have hx := fin_ex f hn hi
  have b1 := ex_bd f s
  have b2 := ff_bd f s
  have fb := fmt_bd f
  have lb := le_bd f
  obtain ⟨k, hk, hb, hk3⟩ := MM_pow f
  have pkk := p2_pos k
  have hm : ∀ x, 0 ≤ x → x < BB f → x % BB f = x ∧ x / BB f = 0 := fun x h0 h1 => ⟨Int.emod_eq_of_lt h0 h1, Int.ediv_eq_zero_of_lt h0 h1⟩
  unfold pk
  by_cases h0 : sig f s = 0 ∧ false = false
  · rw [if_pos h0]
    have : ex f s = 0 ∧ ff f s = 0 := by
      have := h0.1
      unfold sig at this
      split at this
      · exact ⟨by assumption, this⟩
      · split at this <;> omega
    rw [this.1, this.2] at hv
    simp only [Int.zero_mul, Int.add_zero] at hv
    rw [← hv]
  · rw [if_neg h0]
    have hs0 : sig f s ≠ 0 := fun q => h0 ⟨q, rfl⟩
    have hu : unitS f (xp f s) (sig f s) = xp f s := by
      unfold unitS
      rw [if_neg hs0]
      by_cases he : ex f s = 0
      · have hsf : sig f s = ff f s := by unfold sig; rw [if_pos he]
        have hxf : xp f s = le f - MM f := by unfold xp; rw [if_pos he]
        have hp : 0 < ff f s := by omega
        have := lg_bd (k := k) hp (by omega)
        rw [hsf, hxf, ln_pos hp]; omega
      · have hsf : sig f s = ff f s + BB f := by unfold sig; rw [if_neg he, if_neg (by omega)]
        have hxf : xp f s = le f - MM f + ex f s - 1 := by unfold xp; rw [if_neg he, if_neg (by omega)]
        have : lg (sig f s) = k := lg_uniq (by omega) (by rw [p2_succ]; omega)
        rw [hxf, ln_pos (by omega), this]; omega
    have hq : qS (sig f s) (unitS f (xp f s) (sig f s) - xp f s) = sig f s := by
      rw [hu]; unfold qS; rw [if_pos (by omega)]; simp
    have hh : halfS (sig f s) (unitS f (xp f s) (sig f s) - xp f s) = false := by
      rw [hu]; unfold halfS; rw [if_pos (by omega)]
    have hr : restS (sig f s) (unitS f (xp f s) (sig f s) - xp f s) false = false := by
      rw [hu]; unfold restS; rw [if_pos (by omega)]; rfl
    rw [hq, hh, hr, hu]
    unfold fin1
    rw [up_no]
    simp only [Bool.false_eq_true, if_false]
    unfold fin2
    have sb := sig_bd f s
    have q0 : sig f s / (2 * BB f) = 0 := Int.ediv_eq_zero_of_lt sb.1 sb.2
    simp only [q0, if_true]
    by_cases he : ex f s = 0
    · have hsf : sig f s = ff f s := by unfold sig; rw [if_pos he]
      have := hm (ff f s) b2.1 b2.2
      rw [hsf, this.2, this.1, if_pos rfl, if_neg (by omega)]
      rw [he] at hv
      simp only [Int.zero_mul, Int.add_zero] at hv ⊢
      rw [← hv]; rfl
    · have hsf : sig f s = ff f s + BB f := by unfold sig; rw [if_neg he, if_neg (by omega)]
      have hxf : xp f s = le f - MM f + ex f s - 1 := by unfold xp; rw [if_neg he, if_neg (by omega)]
      have := hm (ff f s) b2.1 b2.2
      have d1 : sig f s / BB f = 1 := by rw [hsf, Int.add_ediv_of_dvd_right (Int.dvd_refl _), this.2, Int.ediv_self (by omega)]; rfl
      have d2 : sig f s % BB f = ff f s := by rw [hsf, Int.add_emod_right, this.1]
      rw [d1, d2, if_neg (by omega), hxf, show le f - MM f + ex f s - 1 + MM f - le f + 1 = ex f s by omega, if_neg (by omega), ← hv]; rfl
theorem widen_fin {s : Int} (h : w32 s) (hn : nan 2 s = false) (hi : inff 2 s = false) : widen 2 s = s := by
  have hw : wf 2 s := ⟨h.1, by have := h.2; simp [TT]; omega⟩
  unfold widen toS
  rw [hn, hi]
  simp only [Bool.false_eq_true, if_false]
  rw [pk_round 2 0 hw hn hi]
noncomputable def O_935 : Orc := c_9e
theorem okO_935 : OrcOk PR O_935 := ok_9e
abbrev fa_935 : Fm := (.pair (.i .u32) (.pair (.i .u32) (.pair (.si .u32) .unit)))
abbrev fr_935 : Fm := (.i .u32)
abbrev ff_935_0 : Fm := (.pair (.i .u32) (.pair (.i .u32) (.us 7 (.pair (.si .u32) (.pair (.i .i64) (.pair (.i .i64) (.us 9 .unit)))))))
abbrev hf_935_0 : List BF := []
abbrev X_935_0 : Xs := (.one (.exit 0) [1] (.us 1 (.pair (.i .u32) (.us 19 .unit))) [])
abbrev S_935_0 : Type := T ff_935_0 × TH hf_935_0
abbrev E_935_0 : Type := TX X_935_0
noncomputable def LB_935_0 : Lps := L0
noncomputable def st_935_0 : StepT S_935_0 E_935_0 := fun R v kn ko =>
 let x0 : Int := v.1.2.1
 let x1 : Int := v.1.1
 let x2 : List Int := v.1.2.2.1
 let x3 : Int := v.1.2.2.2.2.1
 bif (decide (x3 < v.1.2.2.2.1)) then
 bif (decide (((0:Int) ≤ x3) ∧ (x3 < (((List.length x2) : Nat) : Int)))) then
 ((F_9e x0 x1 (List.getD x2 (Int.toNat x3) (0:Int)))).bind fun r4 =>
 (kn ((x1, (r4, ((List.take (List.length x2) x2), (v.1.2.2.2.1, ((IntKind.wrap .i64 (x3 + (1:Int))), ()))))), ()))
 else
 none
 else
 (ko ((x0, ()), ()))
noncomputable def ls_935_0 : St → LTr := (lsum ff_935_0 hf_935_0 X_935_0 Prod.mk id st_935_0 (hd [] [] [0, 1, 9, 10, 11] 0))
theorem lp_935_0 : LoopOk PR 0 (lpN f_935 0) ls_935_0 := loopT okO_935 mixed (L := LB_935_0) (d := 1) (bs := []) (ks := [0, 1, 9, 10, 11]) (loopsL (l := []) (by kernel_rfl) trivial) (by kernel_rfl) (inS := Prod.mk) (outS := id) (fun _ _ => rfl) (inX := id) (outX := id) (fun _ => rfl) (fun v R kn ko => by kernel_rfl) (hd_wk [] [] [0, 1, 9, 10, 11] 0)
noncomputable def L_935 : Lps := (lpB 3 (.by_ ls_935_0) L0)
noncomputable def F_935 (a0 : Int) (a1 : Int) (a2 : List Int) : Option (Int) :=
 ((lim st_935_0 ((a0, (a1, ((List.take (List.length a2) a2), ((((List.length a2) : Nat) : Int), ((0:Int), ()))))), ()))).bind fun r0 =>
 (some r0.1.1)
noncomputable def G_935 : T fa_935 → TH hN0 → Option (Int) := fun x y => F_935 x.1 x.2.1 x.2.2.1
noncomputable def c_935 : Orc := ent i_935 [] 0 (sp fa_935 hN0 fr_935 hN0 G_935 (outN fr_935))
theorem ok_935 : OrcOk PR c_935 := fnT okO_935 mixed p_935 (by kernel_rfl) (by kernel_rfl) (L := L_935) (kp := false) (by kernel_rfl) (inn := (innN fr_935)) (out := (outN fr_935)) (fun _ _ => rfl) (loopsL (l := [((lpN f_935 0), ls_935_0)]) (by kernel_rfl) ⟨lp_935_0, trivial⟩) (fun x y => by kernel_rfl)
noncomputable def O_929 : Orc := (orm c_92a (orm c_92b (orm c_933 (orm c_92d (orm c_934 (orm c_94d (orm c_9c (orm c_94e (orm c_9e (orm c_935 c_932))))))))))
theorem okO_929 : OrcOk PR O_929 := (orm_ok ok_92a (orm_ok ok_92b (orm_ok ok_933 (orm_ok ok_92d (orm_ok ok_934 (orm_ok ok_94d (orm_ok ok_9c (orm_ok ok_94e (orm_ok ok_9e (orm_ok ok_935 ok_932))))))))))
abbrev fa_929 : Fm := (.pair (.i .u32) .unit)
abbrev fr_929 : Fm := (.i .u32)
noncomputable def F_929 (a0 : Int) : Option (Int) :=
 ((F_92a a0)).bind fun r0 =>
 bif r0 then
 (some (2143289344:Int))
 else
 ((F_933 a0 (1118925336:Int))).bind fun r1 =>
 bif r1 then
 (some (2139095040:Int))
 else
 ((F_933 (3268407733:Int) a0)).bind fun r2 =>
 bif r2 then
 (some (0:Int))
 else
 ((F_934 a0 (1069066811:Int))).bind fun r3 =>
 ((F_94d (2:Int) (0:Int) r3)).bind fun r4 =>
 let x5 : Int := (IntKind.wrap .i64 r4.1)
 ((F_9c x5)).bind fun r6 =>
 let x7 : Int := (bits .xor .u32 (bits .and .u32 r6 (4294967295:Int)) (2147483648:Int))
 ((F_9e x7 (1060205056:Int) a0)).bind fun r8 =>
 ((F_9e x7 (901758606:Int) r8)).bind fun r9 =>
 ((F_935 r9 (985008993:Int) [(1007192201:Int), (1026206379:Int), (1042983595:Int), (1056964608:Int), (1065353216:Int), (1065353216:Int)])).bind fun r10 =>
 ((F_932 r10 x5)).bind fun r11 =>
 (some r11)
noncomputable def G_929 : T fa_929 → TH hN0 → Option (Int) := fun x y => F_929 x.1
noncomputable def c_929 : Orc := ent i_929 [] 0 (sp fa_929 hN0 fr_929 hN0 G_929 (outN fr_929))
theorem ok_929 : OrcOk PR c_929 := fnT okO_929 mixed p_929 (by kernel_rfl) (by kernel_rfl) (L := L0) (kp := false) (by kernel_rfl) (inn := (innN fr_929)) (out := (outN fr_929)) (fun _ _ => rfl) (loopsL (l := []) (by kernel_rfl) trivial) (fun x y => by kernel_rfl)
noncomputable def O_918 : Orc := (orm c_92a (orm c_92b (orm c_92c (orm c_92d (orm c_92e (orm c_92f (orm c_930 (orm c_931 (orm c_932 (orm c_933 (orm c_9d (orm c_910 (orm c_9f (orm c_934 (orm c_935 (orm c_9e c_9c))))))))))))))))
theorem okO_918 : OrcOk PR O_918 := (orm_ok ok_92a (orm_ok ok_92b (orm_ok ok_92c (orm_ok ok_92d (orm_ok ok_92e (orm_ok ok_92f (orm_ok ok_930 (orm_ok ok_931 (orm_ok ok_932 (orm_ok ok_933 (orm_ok ok_9d (orm_ok ok_910 (orm_ok ok_9f (orm_ok ok_934 (orm_ok ok_935 (orm_ok ok_9e ok_9c))))))))))))))))
abbrev fa_918 : Fm := (.pair (.i .u32) .unit)
abbrev fr_918 : Fm := (.i .u32)
noncomputable def F_918 (a0 : Int) : Option (Int) :=
 let x0 : List Int := [(1049774373:Int), (1053609165:Int), (1059760811:Int)]
 ((F_92a a0)).bind fun r1 =>
 bif r1 then
 (some (2143289344:Int))
 else
 ((F_92c (2:Int) a0)).bind fun r2 =>
 bif r2 then
 (some (4286578688:Int))
 else
 bif ((bits .and .u32 (a0 / (2147483648:Int)) (1:Int)) == (1:Int)) then
 (some (2143289344:Int))
 else
 ((F_92f (2:Int) a0)).bind fun r3 =>
 bif r3 then
 (some a0)
 else
 ((F_930 (2:Int) a0)).bind fun r4 =>
 let x5 : Int := r4.2.2.1
 ((F_931 x5)).bind fun r6 =>
 let x7 : Int := (IntKind.wrap .i64 ((IntKind.wrap .i64 (r4.2.1 + r6)) - (1:Int)))
 ((F_932 a0 (IntKind.wrap .i64 ((0:Int) - x7)))).bind fun r8 =>
 ((F_933 r8 (1068827891:Int))).bind fun r9 =>
 bif r9 then
 ((F_932 r8 (-(1:Int)))).bind fun r10 =>
 ((F_9d r10 (1065353216:Int))).bind fun r11 =>
 ((F_910 (1073741824:Int) r11)).bind fun r12 =>
 ((F_9f r11 r12)).bind fun r13 =>
 ((F_934 r13 r13)).bind fun r14 =>
 ((F_935 r14 (1046711865:Int) x0)).bind fun r15 =>
 ((F_934 r15 r14)).bind fun r16 =>
 ((F_910 r13 r13)).bind fun r17 =>
 ((F_9e r13 r16 r17)).bind fun r18 =>
 ((F_9c (IntKind.wrap .i64 (x7 + (1:Int))))).bind fun r19 =>
 ((F_9e r19 (901758606:Int) r18)).bind fun r20 =>
 ((F_9e r19 (1060205056:Int) r20)).bind fun r21 =>
 (some r21)
 else
 ((F_9d r8 (1065353216:Int))).bind fun r22 =>
 ((F_910 (1073741824:Int) r22)).bind fun r23 =>
 ((F_9f r22 r23)).bind fun r24 =>
 ((F_934 r24 r24)).bind fun r25 =>
 ((F_935 r25 (1046711865:Int) x0)).bind fun r26 =>
 ((F_934 r26 r25)).bind fun r27 =>
 ((F_910 r24 r24)).bind fun r28 =>
 ((F_9e r24 r27 r28)).bind fun r29 =>
 ((F_9c x7)).bind fun r30 =>
 ((F_9e r30 (901758606:Int) r29)).bind fun r31 =>
 ((F_9e r30 (1060205056:Int) r31)).bind fun r32 =>
 (some r32)
noncomputable def G_918 : T fa_918 → TH hN0 → Option (Int) := fun x y => F_918 x.1
noncomputable def c_918 : Orc := ent i_918 [] 0 (sp fa_918 hN0 fr_918 hN0 G_918 (outN fr_918))
theorem ok_918 : OrcOk PR c_918 := fnT okO_918 mixed p_918 (by kernel_rfl) (by kernel_rfl) (L := L0) (kp := false) (by kernel_rfl) (inn := (innN fr_918)) (out := (outN fr_918)) (fun _ _ => rfl) (loopsL (l := []) (by kernel_rfl) trivial) (fun x y => by kernel_rfl)
end Go.Proofs.Ytfpjkmgfkaoapaa.VI
