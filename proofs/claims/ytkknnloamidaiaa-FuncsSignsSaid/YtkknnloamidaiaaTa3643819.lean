import Derived.Test.YtkknnloamidaiaaTe04d0bd1
namespace Go.Proofs.Ytkknnloamidaiaa.VI
set_option linter.unusedVariables false
set_option linter.unusedSimpArgs false
set_option linter.unusedSimpArgs false
set_option linter.unusedVariables false
set_option maxRecDepth 100000
set_option maxHeartbeats 4000000
abbrev wf (f a : Int) : Prop := 0 ≤ a ∧ a < 2 * TT f
theorem wf_w {f a : Int} (h : wf f a) : w32 a := ⟨h.1, by have := TT_cs f; omega⟩
theorem sgn_wf (f : Int) (n : Bool) {x : Int} (h : 0 ≤ x ∧ x < TT f) : wf f (sgn f n + x) := by
  have := sgn_bd f n
  have := TT_cs f
  exact ⟨by omega, by omega⟩
theorem over_wf (f mode : Int) (n : Bool) : wf f (overS f mode n) := by
  have ib := IN_bd f
  have fb := fmt_bd f
  unfold overS
  split
  · exact sgn_wf f n (by omega)
  · exact sgn_wf f n (by omega)
theorem fin2_wf (f mode : Int) (n : Bool) (u q : Int) (h r s : Bool) (hq : 0 ≤ q) (hq2 : q ≤ 2 * BB f) (hu : le f - MM f ≤ u) : wf f (fin2 f mode n u q h r s).1 := by
  have fb := fmt_bd f
  have ib := IN_bd f
  unfold fin2
  have hq3 : 0 ≤ (if q / (2 * BB f) = 0 then q else q / 2) := by split <;> omega
  generalize (if q / (2 * BB f) = 0 then q else q / 2) = q2 at *
  have hu2 : le f - MM f ≤ (if q / (2 * BB f) = 0 then u else u + 1) := by split <;> omega
  generalize (if q / (2 * BB f) = 0 then u else u + 1) = u2 at *
  have ha : 0 ≤ (if q2 / BB f = 0 then 0 else u2 + MM f - le f + 1) := by split <;> omega
  generalize (if q2 / BB f = 0 then 0 else u2 + MM f - le f + 1) = a at *
  have hm : 0 ≤ q2 % BB f ∧ q2 % BB f < BB f := by rcases fb.2.1 with h | h | h <;> rw [h] <;> omega
  by_cases o : a ≥ RR f - 1
  · rw [if_pos o]; exact over_wf f mode n
  · rw [if_neg o]
    show wf f (sgn f n + a * BB f + q2 % BB f)
    rw [Int.add_assoc]
    apply sgn_wf
    have h1 : (a + 1) * BB f ≤ RR f * BB f := Int.mul_le_mul_of_nonneg_right (by omega) (by omega)
    rw [Int.add_mul, ← TT_RB] at h1
    have h2 : 0 ≤ a * BB f := Int.mul_nonneg ha (by omega)
    omega
theorem pk_wf (f mode : Int) (n : Bool) (e N : Int) (m : Bool) (hN : 0 ≤ N) : wf f (pk f mode n e N m).1 := by
  have fb := fmt_bd f
  have hq := q_bd f e N hN
  unfold pk
  split
  · have := sgn_wf f n (x := 0) (by omega); simpa using this
  · refine fin2_wf f mode n _ _ _ _ _ ?_ ?_ ?_
    · unfold fin1; split <;> omega
    · unfold fin1; split <;> omega
    · unfold unitS; split <;> omega
theorem tot_wf (f mode T : Int) : wf f (totS f mode T).1 := by
  have fb := fmt_bd f
  unfold totS
  split
  · have := sgn_wf f (decide (mode = 3)) (x := 0) (by omega); simpa using this
  · exact pk_wf _ _ _ _ _ _ (by split <;> omega)
theorem NN_wf (f : Int) : wf f (NN f) := by
  have ib := IN_bd f
  have fb := fmt_bd f
  unfold NN; exact ⟨by omega, by omega⟩
theorem infs_wf (f : Int) (n : Bool) : wf f (sgn f n + IN f) := by
  have ib := IN_bd f
  have fb := fmt_bd f
  exact sgn_wf f n (by omega)
theorem sum_wf (f mode : Int) (n : Bool) (e N : Int) (m : Bool) (d M : Int) : wf f (sumS f mode n e N m d M).1 := by
  have fb := fmt_bd f
  unfold sumS
  split
  · have := sgn_wf f n (x := 0) (by omega); simpa using this
  · exact tot_wf _ _ _
theorem fma_wf (f mode a b c : Int) : wf f (fmaS f mode a b c).1 := by
  unfold fmaS
  split
  · exact NN_wf f
  · split
    · split
      · exact NN_wf f
      · exact infs_wf f _
    · split
      · exact infs_wf f _
      · exact sum_wf _ _ _ _ _ _ _ _
theorem mul_wf (f mode a b : Int) : wf f (mulS f mode a b).1 := by
  unfold mulS
  split
  · exact NN_wf f
  · split
    · exact NN_wf f
    · split
      · exact infs_wf f _
      · exact pk_wf _ _ _ _ _ _ (sig_mul f a b).1.1
def fma (a b c : Int) : Int := (fmaS 2 0 a b c).1
theorem fma_w (a b c : Int) : w32 (fma a b c) := wf_w (fma_wf 2 0 a b c)
theorem ffma_eq {a b c : Int} (ha : w32 a) (hb : w32 b) (hc : w32 c) : F_funcs_Fma a b c = some (fma a b c) := by
  unfold F_funcs_Fma; rw [fma_eq 2 0 ha hb hc]; rfl
def toS (f g mode a : Int) : Int × ExcT × Unit :=
  if nan f a then (NN g, (loud f a, false, false, false, false, ()), ())
  else if inff f a then (sgn g (sg f a) + IN g, EXC0, ())
  else pk g mode (sg f a) (xp f a) (sig f a) false
theorem sig_w64 (f a : Int) : w64 (sig f a) := by
  have A := sig_bd f a
  have fb := fmt_bd f
  exact ⟨A.1, by omega⟩
theorem to_eq (f g mode : Int) {a : Int} (ha : w32 a) : F_conv_To f g mode a = some (toS f g mode a) := by
  have xa := xp_bd f a
  have k1 := kl_nan f a
  have k3 := kl_inf f a
  have kb := kl_le f a
  unfold F_conv_To F_sum_Bad toS
  rw [class_eq f ha.1 ha.2, nan_w, neg_eq f ha, of_eq f ha]
  simp only [Option.bind_some, bif_eq, inf_eq]
  rw [pack_eq g mode _ _ (sig_w64 f a), show min (max (xp f a) (-10000)) 10000 = xp f a by omega]
  simp only [Option.bind_some]
  by_cases h4 : kl f a = 4
  · have hn : nan f a = true := by unfold nan; simp; exact k1.1 (by omega)
    have hl : loud f a = false := by unfold loud; simp; omega
    rw [if_pos h4, hn, hl]; rfl
  rw [if_neg h4]
  by_cases h5 : kl f a = 5
  · have hn : nan f a = true := by unfold nan; simp; exact k1.1 (by omega)
    have hl : loud f a = true := by unfold loud; simp; omega
    rw [if_pos h5, hn, hl]; rfl
  rw [if_neg h5]
  have hn : nan f a = false := by
    unfold nan; apply decide_eq_false; intro k; have := k1.2 k; omega
  rw [hn]
  by_cases h3 : kl f a = 3
  · have hi : inff f a = true := by unfold inff; simp; exact k3.1 h3
    rw [if_pos h3, hi]; rfl
  · have hi : inff f a = false := by unfold inff; apply decide_eq_false; intro k; exact h3 (k3.2 k)
    rw [if_neg h3, hi]; rfl
def widen (f a : Int) : Int := (toS f 2 0 a).1
theorem to_wf (f g mode a : Int) : wf g (toS f g mode a).1 := by
  unfold toS
  split
  · exact NN_wf g
  · split
    · exact infs_wf g _
    · exact pk_wf _ _ _ _ _ _ (sig_bd f a).1
theorem widen_w (f a : Int) : w32 (widen f a) := wf_w (to_wf f 2 0 a)
theorem widen_eq (f : Int) {a : Int} (ha : w32 a) : F_conv_Widen f a = some (widen f a) := by
  unfold F_conv_Widen; rw [to_eq f 2 0 ha]; rfl
def addS (f mode a b : Int) : Int × ExcT × Unit :=
  if nan f a || nan f b then (NN f, (loud f a || loud f b, false, false, false, false, ()), ())
  else if inff f a && (inff f b && !(sg f a == sg f b)) then (NN f, (true, false, false, false, false, ()), ())
  else if inff f a then (sgn f (sg f a) + IN f, EXC0, ())
  else if inff f b then (sgn f (sg f b) + IN f, EXC0, ())
  else sumS f mode (sg f a) (xp f a) (sig f a) (sg f b) (xp f b) (sig f b)
theorem add_eq (f mode : Int) {a b : Int} (ha : w32 a) (hb : w32 b) : F_sum_Add f mode a b = some (addS f mode a b) := by
  have xa := xp_bd f a
  have xb := xp_bd f b
  have hs := psum_eq f mode (sg f a) (sg f b) (N := sig f a) (M := sig f b) (sig_48 f a) (sig_48 f b) (show -298 ≤ xp f a ∧ xp f a ≤ 300 by omega) (show -298 ≤ xp f b ∧ xp f b ≤ 300 by omega)
  unfold F_sum_Add F_sum_Infinite F_sum_Bad addS
  rw [snans_eq f [a, b] (by simp) (by simpa using ⟨ha, hb⟩), neg_eq f ha, neg_eq f hb, isinf_eq f ha, isinf_eq f hb, of_eq f ha, of_eq f hb, nan_w]
  simp only [Option.bind_some, List.any_cons, List.any_nil, Bool.or_false, inf_eq]
  rw [hs]
  generalize sumS f mode (sg f a) (xp f a) (sig f a) (sg f b) (xp f b) (sig f b) = W
  rcases cls f a with ⟨a1, a3, a4⟩ | ⟨a1, a2, a3, a4⟩ | ⟨a1, a2, a3, a4⟩ | ⟨a1, a2, a3, a4⟩ <;> rcases cls f b with ⟨b1, b3, b4⟩ | ⟨b1, b2, b3, b4⟩ | ⟨b1, b2, b3, b4⟩ | ⟨b1, b2, b3, b4⟩ <;> simp only [a1, a3, a4, b1, b3, b4] <;> first | rfl | (cases sg f a <;> cases sg f b <;> rfl)
theorem add_wf (f mode a b : Int) : wf f (addS f mode a b).1 := by
  unfold addS
  split
  · exact NN_wf f
  · split
    · exact NN_wf f
    · split
      · exact infs_wf f _
      · split
        · exact infs_wf f _
        · exact sum_wf _ _ _ _ _ _ _ _
def addf (a b : Int) : Int := (addS 2 0 a b).1
theorem addf_w (a b : Int) : w32 (addf a b) := wf_w (add_wf 2 0 a b)
theorem fadd_eq {a b : Int} (ha : w32 a) (hb : w32 b) : F_funcs_Add a b = some (addf a b) := by
  unfold F_funcs_Add; rw [add_eq 2 0 ha hb]; rfl
end Go.Proofs.Ytkknnloamidaiaa.VI

namespace Go.Proofs.Ytkknnloamidaiaa.VI
set_option linter.unusedVariables false
set_option linter.unusedSimpArgs false
set_option linter.unusedSimpArgs false
set_option linter.unusedVariables false
set_option maxRecDepth 100000
set_option maxHeartbeats 4000000
theorem parts_val (f : Int) {s : Int} (h : wf f s) : s = sgn f (sg f s) + ex f s * BB f + ff f s := by
  have e := ex_fr f s
  have hs := sg_iff f s h.1
  have hm := mod_bd f s
  have e2 : s % (2 * TT f) = s := Int.emod_eq_of_lt h.1 h.2
  rw [e2] at hs hm
  unfold sgn
  cases hq : sg f s
  · rw [hq] at hs; simp at hs ⊢; omega
  · have := hs.1 hq; simp; omega
theorem fin_ex (f : Int) {s : Int} (hn : nan f s = false) (hi : inff f s = false) : ex f s < RR f - 1 := by
  rw [ex_fin]
  unfold nan at hn; unfold inff at hi
  simp only [decide_eq_false_iff_not] at hn hi
  omega
theorem up_no (mode : Int) (n o : Bool) : upS mode n o false false = false := by
  unfold upS
  (repeat' split) <;> cases n <;> rfl
theorem pk_round (f mode : Int) {s : Int} (h : wf f s) (hn : nan f s = false) (hi : inff f s = false) : pk f mode (sg f s) (xp f s) (sig f s) false = (s, EXC0, ()) := by
  have hv := parts_val f h
  have hx := fin_ex f hn hi
  have b1 := ex_bd f s
  have b2 := ff_bd f s
  have fb := fmt_bd f
  have lb := le_bd f
  obtain ⟨k, hk, hb, hk3⟩ := MM_pow f
  have pkk := p2_pos k
  have hm : ∀ x, 0 ≤ x → x < BB f → x % BB f = x ∧ x / BB f = 0 := fun x h0 h1 => ⟨Int.emod_eq_of_lt h0 h1, Int.ediv_eq_zero_of_lt h0 h1⟩
  unfold pk
  by_cases h0 : sig f s = 0 ∧ false = false
  · rw [if_pos h0]
    have : ex f s = 0 ∧ ff f s = 0 := by
      have := h0.1
      unfold sig at this
      split at this
      · exact ⟨by assumption, this⟩
      · split at this <;> omega
    rw [this.1, this.2] at hv
    simp only [Int.zero_mul, Int.add_zero] at hv
    rw [← hv]
  · rw [if_neg h0]
    have hs0 : sig f s ≠ 0 := fun q => h0 ⟨q, rfl⟩
    have hu : unitS f (xp f s) (sig f s) = xp f s := by
      unfold unitS
      rw [if_neg hs0]
      by_cases he : ex f s = 0
      · have hsf : sig f s = ff f s := by unfold sig; rw [if_pos he]
        have hxf : xp f s = le f - MM f := by unfold xp; rw [if_pos he]
        have hp : 0 < ff f s := by omega
        have := lg_bd (k := k) hp (by omega)
        rw [hsf, hxf, ln_pos hp]; omega
      · have hsf : sig f s = ff f s + BB f := by unfold sig; rw [if_neg he, if_neg (by omega)]
        have hxf : xp f s = le f - MM f + ex f s - 1 := by unfold xp; rw [if_neg he, if_neg (by omega)]
        have : lg (sig f s) = k := lg_uniq (by omega) (by rw [p2_succ]; omega)
        rw [hxf, ln_pos (by omega), this]; omega
    have hq : qS (sig f s) (unitS f (xp f s) (sig f s) - xp f s) = sig f s := by
      rw [hu]; unfold qS; rw [if_pos (by omega)]; simp
    have hh : halfS (sig f s) (unitS f (xp f s) (sig f s) - xp f s) = false := by
      rw [hu]; unfold halfS; rw [if_pos (by omega)]
    have hr : restS (sig f s) (unitS f (xp f s) (sig f s) - xp f s) false = false := by
      rw [hu]; unfold restS; rw [if_pos (by omega)]; rfl
    rw [hq, hh, hr, hu]
    unfold fin1
    rw [up_no]
    simp only [Bool.false_eq_true, if_false]
    unfold fin2
    have sb := sig_bd f s
    have q0 : sig f s / (2 * BB f) = 0 := Int.ediv_eq_zero_of_lt sb.1 sb.2
    simp only [q0, if_true]
    by_cases he : ex f s = 0
    · have hsf : sig f s = ff f s := by unfold sig; rw [if_pos he]
      have := hm (ff f s) b2.1 b2.2
      rw [hsf, this.2, this.1, if_pos rfl, if_neg (by omega)]
      rw [he] at hv
      simp only [Int.zero_mul, Int.add_zero] at hv ⊢
      rw [← hv]; rfl
    · have hsf : sig f s = ff f s + BB f := by unfold sig; rw [if_neg he, if_neg (by omega)]
      have hxf : xp f s = le f - MM f + ex f s - 1 := by unfold xp; rw [if_neg he, if_neg (by omega)]
      have := hm (ff f s) b2.1 b2.2
      have d1 : sig f s / BB f = 1 := by rw [hsf, Int.add_ediv_of_dvd_right (Int.dvd_refl _), this.2, Int.ediv_self (by omega)]; rfl
      have d2 : sig f s % BB f = ff f s := by rw [hsf, Int.add_emod_right, this.1]
      rw [d1, d2, if_neg (by omega), hxf, show le f - MM f + ex f s - 1 + MM f - le f + 1 = ex f s by omega, if_neg (by omega), ← hv]; rfl
theorem widen_fin {s : Int} (h : w32 s) (hn : nan 2 s = false) (hi : inff 2 s = false) : widen 2 s = s := by
  have hw : wf 2 s := ⟨h.1, by have := h.2; simp [TT]; omega⟩
  unfold widen toS
  rw [hn, hi]
  simp only [Bool.false_eq_true, if_false]
  rw [pk_round 2 0 hw hn hi]
end Go.Proofs.Ytkknnloamidaiaa.VI

namespace Go.Proofs.Ytkknnloamidaiaa.VI
set_option linter.unusedVariables false
set_option linter.unusedSimpArgs false
set_option maxRecDepth 100000
set_option linter.unusedSimpArgs false
set_option linter.unusedVariables false
noncomputable def O_funcs_poly : Orc := c_funcs_Fma
theorem okO_funcs_poly : OrcOk PR O_funcs_poly := ok_funcs_Fma
abbrev fa_funcs_poly : Fm := (.pair (.i .u32) (.pair (.i .u32) (.pair (.si .u32) .unit)))
abbrev ha_funcs_poly : List BF := []
abbrev fr_funcs_poly : Fm := (.i .u32)
abbrev hr_funcs_poly : List BF := []
abbrev ff_funcs_poly_0 : Fm := (.pair (.i .u32) (.pair (.i .u32) (.us 7 (.pair (.si .u32) (.pair (.i .i64) (.pair (.i .i64) (.us 9 .unit)))))))
abbrev hf_funcs_poly_0 : List BF := []
abbrev X_funcs_poly_0 : Xs := (.one (.exit 0) [1] (.us 1 (.pair (.i .u32) (.us 19 .unit))) [])
abbrev S_funcs_poly_0 : Type := T ff_funcs_poly_0 × TH hf_funcs_poly_0
abbrev E_funcs_poly_0 : Type := TX X_funcs_poly_0
noncomputable def LB_funcs_poly_0 : Lps := L0
noncomputable def st_funcs_poly_0 : StepT S_funcs_poly_0 E_funcs_poly_0 := fun R v kn ko =>
  let x0 : Int := v.1.2.1
  let x1 : Int := v.1.1
  let x2 : List Int := v.1.2.2.1
  let x3 : Int := v.1.2.2.2.2.1
  bif (decide (x3 < v.1.2.2.2.1)) then
    bif (decide (((0:Int) ≤ x3) ∧ (x3 < (((List.length x2) : Nat) : Int)))) then
      ((F_funcs_Fma x0 x1 (List.getD x2 (Int.toNat x3) (0:Int)))).bind fun r4 =>
      (kn ((x1, (r4, ((List.take (List.length x2) x2), (v.1.2.2.2.1, ((IntKind.wrap .i64 (x3 + (1:Int))), ()))))), ()))
    else
      none
  else
    (ko ((x0, ()), ()))
noncomputable def ls_funcs_poly_0 : St → LTr := (lsum ff_funcs_poly_0 hf_funcs_poly_0 X_funcs_poly_0 Prod.mk id st_funcs_poly_0 (hd [] [] [0, 1, 9, 10, 11] 0))
theorem lp_funcs_poly_0 : LoopOk PR 0 (lpN f_funcs_poly 0) ls_funcs_poly_0 := loopT okO_funcs_poly mixed (L := LB_funcs_poly_0) (d := 1) (bs := []) (ks := [0, 1, 9, 10, 11]) (loopsL (l := []) (by kernel_rfl) trivial) (by kernel_rfl) (inS := Prod.mk) (outS := id) (fun _ _ => rfl) (inX := id) (outX := id) (fun _ => rfl) (fun v R kn ko => by kernel_rfl) (hd_wk [] [] [0, 1, 9, 10, 11] 0)
noncomputable def L_funcs_poly : Lps := (lpB 3 (.by_ ls_funcs_poly_0) L0)
def inn_funcs_poly : T fr_funcs_poly → TH hr_funcs_poly → Int := (fun z w => z)
def out_funcs_poly : Int → T fr_funcs_poly × TH hr_funcs_poly := fun r => (r, ())
noncomputable def F_funcs_poly (a0 : Int) (a1 : Int) (a2 : List Int) : Option (Int) :=
  ((lim st_funcs_poly_0 ((a0, (a1, ((List.take (List.length a2) a2), ((((List.length a2) : Nat) : Int), ((0:Int), ()))))), ()))).bind fun r0 =>
  (some r0.1.1)
noncomputable def G_funcs_poly : T fa_funcs_poly → TH ha_funcs_poly → Option (Int) := fun x y => F_funcs_poly x.1 x.2.1 x.2.2.1
noncomputable def c_funcs_poly : Orc := ent i_funcs_poly [] 0 (sp fa_funcs_poly ha_funcs_poly fr_funcs_poly hr_funcs_poly G_funcs_poly out_funcs_poly)
theorem ok_funcs_poly : OrcOk PR c_funcs_poly := fnT okO_funcs_poly mixed p_funcs_poly (by kernel_rfl) (by kernel_rfl) (L := L_funcs_poly) (kp := false) (by kernel_rfl) (inn := inn_funcs_poly) (out := out_funcs_poly) (fun _ _ => rfl) (loopsL (l := [((lpN f_funcs_poly 0), ls_funcs_poly_0)]) (by kernel_rfl) ⟨lp_funcs_poly_0, trivial⟩) (fun x y => by kernel_rfl)
noncomputable def O_funcs_Exp : Orc := (orm c_funcs_IsNan (orm c_funcs_plain (orm c_funcs_Above (orm c_format_Inf (orm c_funcs_Mul (orm c_whole_ToInt (orm c_funcs_Int (orm c_funcs_Minus (orm c_funcs_Fma (orm c_funcs_poly c_funcs_Scale))))))))))
theorem okO_funcs_Exp : OrcOk PR O_funcs_Exp := (orm_ok ok_funcs_IsNan (orm_ok ok_funcs_plain (orm_ok ok_funcs_Above (orm_ok ok_format_Inf (orm_ok ok_funcs_Mul (orm_ok ok_whole_ToInt (orm_ok ok_funcs_Int (orm_ok ok_funcs_Minus (orm_ok ok_funcs_Fma (orm_ok ok_funcs_poly ok_funcs_Scale))))))))))
abbrev fa_funcs_Exp : Fm := (.pair (.i .u32) .unit)
abbrev ha_funcs_Exp : List BF := []
abbrev fr_funcs_Exp : Fm := (.i .u32)
abbrev hr_funcs_Exp : List BF := []
noncomputable def L_funcs_Exp : Lps := L0
def inn_funcs_Exp : T fr_funcs_Exp → TH hr_funcs_Exp → Int := (fun z w => z)
def out_funcs_Exp : Int → T fr_funcs_Exp × TH hr_funcs_Exp := fun r => (r, ())
noncomputable def F_funcs_Exp (a0 : Int) : Option (Int) :=
  ((F_funcs_IsNan a0)).bind fun r0 =>
  bif r0 then
    (some (2143289344:Int))
  else
    ((F_funcs_Above a0 (1118925336:Int))).bind fun r1 =>
    bif r1 then
      (some (2139095040:Int))
    else
      ((F_funcs_Above (3268407733:Int) a0)).bind fun r2 =>
      bif r2 then
        (some (0:Int))
      else
        ((F_funcs_Mul a0 (1069066811:Int))).bind fun r3 =>
        ((F_whole_ToInt (2:Int) (0:Int) r3)).bind fun r4 =>
        let x5 : Int := (IntKind.wrap .i64 r4.1)
        ((F_funcs_Int x5)).bind fun r6 =>
        let x7 : Int := (bits .xor .u32 (bits .and .u32 r6 (4294967295:Int)) (2147483648:Int))
        ((F_funcs_Fma x7 (1060205056:Int) a0)).bind fun r8 =>
        ((F_funcs_Fma x7 (901758606:Int) r8)).bind fun r9 =>
        ((F_funcs_poly r9 (985008993:Int) [(1007192201:Int), (1026206379:Int), (1042983595:Int), (1056964608:Int), (1065353216:Int), (1065353216:Int)])).bind fun r10 =>
        ((F_funcs_Scale r10 x5)).bind fun r11 =>
        (some r11)
noncomputable def G_funcs_Exp : T fa_funcs_Exp → TH ha_funcs_Exp → Option (Int) := fun x y => F_funcs_Exp x.1
noncomputable def c_funcs_Exp : Orc := ent i_funcs_Exp [] 0 (sp fa_funcs_Exp ha_funcs_Exp fr_funcs_Exp hr_funcs_Exp G_funcs_Exp out_funcs_Exp)
theorem ok_funcs_Exp : OrcOk PR c_funcs_Exp := fnT okO_funcs_Exp mixed p_funcs_Exp (by kernel_rfl) (by kernel_rfl) (L := L_funcs_Exp) (kp := false) (by kernel_rfl) (inn := inn_funcs_Exp) (out := out_funcs_Exp) (fun _ _ => rfl) (loopsL (l := []) (by kernel_rfl) trivial) (fun x y => by kernel_rfl)
noncomputable def O_funcs_Log : Orc := (orm c_funcs_IsNan (orm c_funcs_plain (orm c_format_IsZero (orm c_format_Inf (orm c_format_Neg (orm c_format_IsInf (orm c_format_Unpack (orm c_bits_Len (orm c_funcs_Scale (orm c_funcs_Above (orm c_funcs_Sub (orm c_funcs_Add (orm c_funcs_Div (orm c_funcs_Mul (orm c_funcs_poly (orm c_funcs_Fma c_funcs_Int))))))))))))))))
theorem okO_funcs_Log : OrcOk PR O_funcs_Log := (orm_ok ok_funcs_IsNan (orm_ok ok_funcs_plain (orm_ok ok_format_IsZero (orm_ok ok_format_Inf (orm_ok ok_format_Neg (orm_ok ok_format_IsInf (orm_ok ok_format_Unpack (orm_ok ok_bits_Len (orm_ok ok_funcs_Scale (orm_ok ok_funcs_Above (orm_ok ok_funcs_Sub (orm_ok ok_funcs_Add (orm_ok ok_funcs_Div (orm_ok ok_funcs_Mul (orm_ok ok_funcs_poly (orm_ok ok_funcs_Fma ok_funcs_Int))))))))))))))))
abbrev fa_funcs_Log : Fm := (.pair (.i .u32) .unit)
abbrev ha_funcs_Log : List BF := []
abbrev fr_funcs_Log : Fm := (.i .u32)
abbrev hr_funcs_Log : List BF := []
noncomputable def L_funcs_Log : Lps := L0
def inn_funcs_Log : T fr_funcs_Log → TH hr_funcs_Log → Int := (fun z w => z)
def out_funcs_Log : Int → T fr_funcs_Log × TH hr_funcs_Log := fun r => (r, ())
noncomputable def F_funcs_Log (a0 : Int) : Option (Int) :=
  let x0 : List Int := [(1049774373:Int), (1053609165:Int), (1059760811:Int)]
  ((F_funcs_IsNan a0)).bind fun r1 =>
  bif r1 then
    (some (2143289344:Int))
  else
    ((F_format_IsZero (2:Int) a0)).bind fun r2 =>
    bif r2 then
      (some (4286578688:Int))
    else
      bif ((bits .and .u32 (a0 / (2147483648:Int)) (1:Int)) == (1:Int)) then
        (some (2143289344:Int))
      else
        ((F_format_IsInf (2:Int) a0)).bind fun r3 =>
        bif r3 then
          (some a0)
        else
          ((F_format_Unpack (2:Int) a0)).bind fun r4 =>
          let x5 : Int := r4.2.2.1
          ((F_bits_Len x5)).bind fun r6 =>
          let x7 : Int := (IntKind.wrap .i64 ((IntKind.wrap .i64 (r4.2.1 + r6)) - (1:Int)))
          ((F_funcs_Scale a0 (IntKind.wrap .i64 ((0:Int) - x7)))).bind fun r8 =>
          ((F_funcs_Above r8 (1068827891:Int))).bind fun r9 =>
          bif r9 then
            ((F_funcs_Scale r8 (-(1:Int)))).bind fun r10 =>
            ((F_funcs_Sub r10 (1065353216:Int))).bind fun r11 =>
            ((F_funcs_Add (1073741824:Int) r11)).bind fun r12 =>
            ((F_funcs_Div r11 r12)).bind fun r13 =>
            ((F_funcs_Mul r13 r13)).bind fun r14 =>
            ((F_funcs_poly r14 (1046711865:Int) x0)).bind fun r15 =>
            ((F_funcs_Mul r15 r14)).bind fun r16 =>
            ((F_funcs_Add r13 r13)).bind fun r17 =>
            ((F_funcs_Fma r13 r16 r17)).bind fun r18 =>
            ((F_funcs_Int (IntKind.wrap .i64 (x7 + (1:Int))))).bind fun r19 =>
            ((F_funcs_Fma r19 (901758606:Int) r18)).bind fun r20 =>
            ((F_funcs_Fma r19 (1060205056:Int) r20)).bind fun r21 =>
            (some r21)
          else
            ((F_funcs_Sub r8 (1065353216:Int))).bind fun r22 =>
            ((F_funcs_Add (1073741824:Int) r22)).bind fun r23 =>
            ((F_funcs_Div r22 r23)).bind fun r24 =>
            ((F_funcs_Mul r24 r24)).bind fun r25 =>
            ((F_funcs_poly r25 (1046711865:Int) x0)).bind fun r26 =>
            ((F_funcs_Mul r26 r25)).bind fun r27 =>
            ((F_funcs_Add r24 r24)).bind fun r28 =>
            ((F_funcs_Fma r24 r27 r28)).bind fun r29 =>
            ((F_funcs_Int x7)).bind fun r30 =>
            ((F_funcs_Fma r30 (901758606:Int) r29)).bind fun r31 =>
            ((F_funcs_Fma r30 (1060205056:Int) r31)).bind fun r32 =>
            (some r32)
noncomputable def G_funcs_Log : T fa_funcs_Log → TH ha_funcs_Log → Option (Int) := fun x y => F_funcs_Log x.1
noncomputable def c_funcs_Log : Orc := ent i_funcs_Log [] 0 (sp fa_funcs_Log ha_funcs_Log fr_funcs_Log hr_funcs_Log G_funcs_Log out_funcs_Log)
theorem ok_funcs_Log : OrcOk PR c_funcs_Log := fnT okO_funcs_Log mixed p_funcs_Log (by kernel_rfl) (by kernel_rfl) (L := L_funcs_Log) (kp := false) (by kernel_rfl) (inn := inn_funcs_Log) (out := out_funcs_Log) (fun _ _ => rfl) (loopsL (l := []) (by kernel_rfl) trivial) (fun x y => by kernel_rfl)
noncomputable def O_funcs_Tanh : Orc := (orm c_funcs_IsNan (orm c_funcs_plain (orm c_format_IsZero (orm c_format_Neg (orm c_funcs_Minus (orm c_funcs_Above (orm c_funcs_Add (orm c_funcs_Exp (orm c_funcs_Div c_funcs_Sub)))))))))
theorem okO_funcs_Tanh : OrcOk PR O_funcs_Tanh := (orm_ok ok_funcs_IsNan (orm_ok ok_funcs_plain (orm_ok ok_format_IsZero (orm_ok ok_format_Neg (orm_ok ok_funcs_Minus (orm_ok ok_funcs_Above (orm_ok ok_funcs_Add (orm_ok ok_funcs_Exp (orm_ok ok_funcs_Div ok_funcs_Sub)))))))))
abbrev fa_funcs_Tanh : Fm := (.pair (.i .u32) .unit)
abbrev ha_funcs_Tanh : List BF := []
abbrev fr_funcs_Tanh : Fm := (.i .u32)
abbrev hr_funcs_Tanh : List BF := []
noncomputable def L_funcs_Tanh : Lps := L0
def inn_funcs_Tanh : T fr_funcs_Tanh → TH hr_funcs_Tanh → Int := (fun z w => z)
def out_funcs_Tanh : Int → T fr_funcs_Tanh × TH hr_funcs_Tanh := fun r => (r, ())
noncomputable def F_funcs_Tanh (a0 : Int) : Option (Int) :=
  let x0 : Bool := ((bits .and .u32 (a0 / (2147483648:Int)) (1:Int)) == (1:Int))
  let x1 : Int := (bits .xor .u32 (bits .and .u32 a0 (4294967295:Int)) (2147483648:Int))
  ((F_funcs_IsNan a0)).bind fun r2 =>
  bif r2 then
    (some (2143289344:Int))
  else
    ((F_format_IsZero (2:Int) a0)).bind fun r3 =>
    bif r3 then
      (some a0)
    else
      bif x0 then
        ((F_funcs_Above x1 (1091579060:Int))).bind fun r4 =>
        bif (!r4) then
          ((F_funcs_Add x1 x1)).bind fun r5 =>
          ((F_funcs_Exp r5)).bind fun r6 =>
          ((F_funcs_Add r6 (1065353216:Int))).bind fun r7 =>
          ((F_funcs_Div (1073741824:Int) r7)).bind fun r8 =>
          ((F_funcs_Sub (1065353216:Int) r8)).bind fun r9 =>
          bif x0 then
            (some (bits .xor .u32 (bits .and .u32 r9 (4294967295:Int)) (2147483648:Int)))
          else
            (some r9)
        else
          bif x0 then
            (some (3212836864:Int))
          else
            (some (1065353216:Int))
      else
        ((F_funcs_Above a0 (1091579060:Int))).bind fun r10 =>
        bif (!r10) then
          ((F_funcs_Add a0 a0)).bind fun r11 =>
          ((F_funcs_Exp r11)).bind fun r12 =>
          ((F_funcs_Add r12 (1065353216:Int))).bind fun r13 =>
          ((F_funcs_Div (1073741824:Int) r13)).bind fun r14 =>
          ((F_funcs_Sub (1065353216:Int) r14)).bind fun r15 =>
          bif x0 then
            (some (bits .xor .u32 (bits .and .u32 r15 (4294967295:Int)) (2147483648:Int)))
          else
            (some r15)
        else
          bif x0 then
            (some (3212836864:Int))
          else
            (some (1065353216:Int))
noncomputable def G_funcs_Tanh : T fa_funcs_Tanh → TH ha_funcs_Tanh → Option (Int) := fun x y => F_funcs_Tanh x.1
noncomputable def c_funcs_Tanh : Orc := ent i_funcs_Tanh [] 0 (sp fa_funcs_Tanh ha_funcs_Tanh fr_funcs_Tanh hr_funcs_Tanh G_funcs_Tanh out_funcs_Tanh)
theorem ok_funcs_Tanh : OrcOk PR c_funcs_Tanh := fnT okO_funcs_Tanh mixed p_funcs_Tanh (by kernel_rfl) (by kernel_rfl) (L := L_funcs_Tanh) (kp := false) (by kernel_rfl) (inn := inn_funcs_Tanh) (out := out_funcs_Tanh) (fun _ _ => rfl) (loopsL (l := []) (by kernel_rfl) trivial) (fun x y => by kernel_rfl)
noncomputable def O_funcs_Sigmoid : Orc := (orm c_funcs_Minus (orm c_funcs_Exp (orm c_funcs_Add c_funcs_Div)))
theorem okO_funcs_Sigmoid : OrcOk PR O_funcs_Sigmoid := (orm_ok ok_funcs_Minus (orm_ok ok_funcs_Exp (orm_ok ok_funcs_Add ok_funcs_Div)))
abbrev fa_funcs_Sigmoid : Fm := (.pair (.i .u32) .unit)
abbrev ha_funcs_Sigmoid : List BF := []
abbrev fr_funcs_Sigmoid : Fm := (.i .u32)
abbrev hr_funcs_Sigmoid : List BF := []
noncomputable def L_funcs_Sigmoid : Lps := L0
def inn_funcs_Sigmoid : T fr_funcs_Sigmoid → TH hr_funcs_Sigmoid → Int := (fun z w => z)
def out_funcs_Sigmoid : Int → T fr_funcs_Sigmoid × TH hr_funcs_Sigmoid := fun r => (r, ())
noncomputable def F_funcs_Sigmoid (a0 : Int) : Option (Int) :=
  ((F_funcs_Exp (bits .xor .u32 (bits .and .u32 a0 (4294967295:Int)) (2147483648:Int)))).bind fun r0 =>
  ((F_funcs_Add (1065353216:Int) r0)).bind fun r1 =>
  ((F_funcs_Div (1065353216:Int) r1)).bind fun r2 =>
  (some r2)
noncomputable def G_funcs_Sigmoid : T fa_funcs_Sigmoid → TH ha_funcs_Sigmoid → Option (Int) := fun x y => F_funcs_Sigmoid x.1
noncomputable def c_funcs_Sigmoid : Orc := ent i_funcs_Sigmoid [] 0 (sp fa_funcs_Sigmoid ha_funcs_Sigmoid fr_funcs_Sigmoid hr_funcs_Sigmoid G_funcs_Sigmoid out_funcs_Sigmoid)
theorem ok_funcs_Sigmoid : OrcOk PR c_funcs_Sigmoid := fnT okO_funcs_Sigmoid mixed p_funcs_Sigmoid (by kernel_rfl) (by kernel_rfl) (L := L_funcs_Sigmoid) (kp := false) (by kernel_rfl) (inn := inn_funcs_Sigmoid) (out := out_funcs_Sigmoid) (fun _ _ => rfl) (loopsL (l := []) (by kernel_rfl) trivial) (fun x y => by kernel_rfl)
noncomputable def O_funcs_inner : Orc := (orm c_funcs_Mul c_funcs_Fma)
theorem okO_funcs_inner : OrcOk PR O_funcs_inner := (orm_ok ok_funcs_Mul ok_funcs_Fma)
abbrev fa_funcs_inner : Fm := (.pair (.i .u32) .unit)
abbrev ha_funcs_inner : List BF := []
abbrev fr_funcs_inner : Fm := (.i .u32)
abbrev hr_funcs_inner : List BF := []
noncomputable def L_funcs_inner : Lps := L0
def inn_funcs_inner : T fr_funcs_inner → TH hr_funcs_inner → Int := (fun z w => z)
def out_funcs_inner : Int → T fr_funcs_inner × TH hr_funcs_inner := fun r => (r, ())
noncomputable def F_funcs_inner (a0 : Int) : Option (Int) :=
  ((F_funcs_Mul a0 a0)).bind fun r0 =>
  ((F_funcs_Mul r0 a0)).bind fun r1 =>
  ((F_funcs_Fma (1027024659:Int) r1 a0)).bind fun r2 =>
  ((F_funcs_Mul (1061962282:Int) r2)).bind fun r3 =>
  (some r3)
noncomputable def G_funcs_inner : T fa_funcs_inner → TH ha_funcs_inner → Option (Int) := fun x y => F_funcs_inner x.1
noncomputable def c_funcs_inner : Orc := ent i_funcs_inner [] 0 (sp fa_funcs_inner ha_funcs_inner fr_funcs_inner hr_funcs_inner G_funcs_inner out_funcs_inner)
theorem ok_funcs_inner : OrcOk PR c_funcs_inner := fnT okO_funcs_inner mixed p_funcs_inner (by kernel_rfl) (by kernel_rfl) (L := L_funcs_inner) (kp := false) (by kernel_rfl) (inn := inn_funcs_inner) (out := out_funcs_inner) (fun _ _ => rfl) (loopsL (l := []) (by kernel_rfl) trivial) (fun x y => by kernel_rfl)
noncomputable def O_funcs_Gelu : Orc := (orm c_funcs_Mul (orm c_funcs_inner (orm c_funcs_Tanh c_funcs_Add)))
theorem okO_funcs_Gelu : OrcOk PR O_funcs_Gelu := (orm_ok ok_funcs_Mul (orm_ok ok_funcs_inner (orm_ok ok_funcs_Tanh ok_funcs_Add)))
abbrev fa_funcs_Gelu : Fm := (.pair (.i .u32) .unit)
abbrev ha_funcs_Gelu : List BF := []
abbrev fr_funcs_Gelu : Fm := (.i .u32)
abbrev hr_funcs_Gelu : List BF := []
noncomputable def L_funcs_Gelu : Lps := L0
def inn_funcs_Gelu : T fr_funcs_Gelu → TH hr_funcs_Gelu → Int := (fun z w => z)
def out_funcs_Gelu : Int → T fr_funcs_Gelu × TH hr_funcs_Gelu := fun r => (r, ())
noncomputable def F_funcs_Gelu (a0 : Int) : Option (Int) :=
  ((F_funcs_Mul (1056964608:Int) a0)).bind fun r0 =>
  ((F_funcs_inner a0)).bind fun r1 =>
  ((F_funcs_Tanh r1)).bind fun r2 =>
  ((F_funcs_Add (1065353216:Int) r2)).bind fun r3 =>
  ((F_funcs_Mul r0 r3)).bind fun r4 =>
  (some r4)
noncomputable def G_funcs_Gelu : T fa_funcs_Gelu → TH ha_funcs_Gelu → Option (Int) := fun x y => F_funcs_Gelu x.1
noncomputable def c_funcs_Gelu : Orc := ent i_funcs_Gelu [] 0 (sp fa_funcs_Gelu ha_funcs_Gelu fr_funcs_Gelu hr_funcs_Gelu G_funcs_Gelu out_funcs_Gelu)
theorem ok_funcs_Gelu : OrcOk PR c_funcs_Gelu := fnT okO_funcs_Gelu mixed p_funcs_Gelu (by kernel_rfl) (by kernel_rfl) (L := L_funcs_Gelu) (kp := false) (by kernel_rfl) (inn := inn_funcs_Gelu) (out := out_funcs_Gelu) (fun _ _ => rfl) (loopsL (l := []) (by kernel_rfl) trivial) (fun x y => by kernel_rfl)
noncomputable def O_funcs_Slope : Orc := (orm c_funcs_inner (orm c_funcs_Tanh (orm c_funcs_Mul (orm c_funcs_Fma (orm c_funcs_Sub c_funcs_Add)))))
theorem okO_funcs_Slope : OrcOk PR O_funcs_Slope := (orm_ok ok_funcs_inner (orm_ok ok_funcs_Tanh (orm_ok ok_funcs_Mul (orm_ok ok_funcs_Fma (orm_ok ok_funcs_Sub ok_funcs_Add)))))
abbrev fa_funcs_Slope : Fm := (.pair (.i .u32) .unit)
abbrev ha_funcs_Slope : List BF := []
abbrev fr_funcs_Slope : Fm := (.i .u32)
abbrev hr_funcs_Slope : List BF := []
noncomputable def L_funcs_Slope : Lps := L0
def inn_funcs_Slope : T fr_funcs_Slope → TH hr_funcs_Slope → Int := (fun z w => z)
def out_funcs_Slope : Int → T fr_funcs_Slope × TH hr_funcs_Slope := fun r => (r, ())
noncomputable def F_funcs_Slope (a0 : Int) : Option (Int) :=
  ((F_funcs_inner a0)).bind fun r0 =>
  ((F_funcs_Tanh r0)).bind fun r1 =>
  ((F_funcs_Mul a0 a0)).bind fun r2 =>
  ((F_funcs_Fma (1040801103:Int) r2 (1065353216:Int))).bind fun r3 =>
  ((F_funcs_Mul (1061962282:Int) r3)).bind fun r4 =>
  ((F_funcs_Mul (1056964608:Int) a0)).bind fun r5 =>
  ((F_funcs_Mul r1 r1)).bind fun r6 =>
  ((F_funcs_Sub (1065353216:Int) r6)).bind fun r7 =>
  ((F_funcs_Mul r5 r7)).bind fun r8 =>
  ((F_funcs_Add (1065353216:Int) r1)).bind fun r9 =>
  ((F_funcs_Mul (1056964608:Int) r9)).bind fun r10 =>
  ((F_funcs_Fma r8 r4 r10)).bind fun r11 =>
  (some r11)
noncomputable def G_funcs_Slope : T fa_funcs_Slope → TH ha_funcs_Slope → Option (Int) := fun x y => F_funcs_Slope x.1
noncomputable def c_funcs_Slope : Orc := ent i_funcs_Slope [] 0 (sp fa_funcs_Slope ha_funcs_Slope fr_funcs_Slope hr_funcs_Slope G_funcs_Slope out_funcs_Slope)
theorem ok_funcs_Slope : OrcOk PR c_funcs_Slope := fnT okO_funcs_Slope mixed p_funcs_Slope (by kernel_rfl) (by kernel_rfl) (L := L_funcs_Slope) (kp := false) (by kernel_rfl) (inn := inn_funcs_Slope) (out := out_funcs_Slope) (fun _ _ => rfl) (loopsL (l := []) (by kernel_rfl) trivial) (fun x y => by kernel_rfl)
noncomputable def O_funcs_Cospi : Orc := (orm c_funcs_IsNan (orm c_funcs_plain (orm c_funcs_Sub (orm c_funcs_Mul (orm c_funcs_poly c_funcs_Minus)))))
theorem okO_funcs_Cospi : OrcOk PR O_funcs_Cospi := (orm_ok ok_funcs_IsNan (orm_ok ok_funcs_plain (orm_ok ok_funcs_Sub (orm_ok ok_funcs_Mul (orm_ok ok_funcs_poly ok_funcs_Minus)))))
abbrev fa_funcs_Cospi : Fm := (.pair (.i .u32) .unit)
abbrev ha_funcs_Cospi : List BF := []
abbrev fr_funcs_Cospi : Fm := (.i .u32)
abbrev hr_funcs_Cospi : List BF := []
noncomputable def L_funcs_Cospi : Lps := L0
def inn_funcs_Cospi : T fr_funcs_Cospi → TH hr_funcs_Cospi → Int := (fun z w => z)
def out_funcs_Cospi : Int → T fr_funcs_Cospi × TH hr_funcs_Cospi := fun r => (r, ())
noncomputable def F_funcs_Cospi (a0 : Int) : Option (Int) :=
  ((F_funcs_IsNan a0)).bind fun r0 =>
  bif r0 then
    (some (2143289344:Int))
  else
    ((F_funcs_Sub a0 (1056964608:Int))).bind fun r1 =>
    ((F_funcs_Mul (1078530011:Int) r1)).bind fun r2 =>
    ((F_funcs_Mul r2 r2)).bind fun r3 =>
    ((F_funcs_poly r3 (3109031169:Int) [(1007192201:Int), (3190467243:Int), (1065353216:Int)])).bind fun r4 =>
    ((F_funcs_Mul r2 r4)).bind fun r5 =>
    (some (bits .xor .u32 (bits .and .u32 r5 (4294967295:Int)) (2147483648:Int)))
noncomputable def G_funcs_Cospi : T fa_funcs_Cospi → TH ha_funcs_Cospi → Option (Int) := fun x y => F_funcs_Cospi x.1
noncomputable def c_funcs_Cospi : Orc := ent i_funcs_Cospi [] 0 (sp fa_funcs_Cospi ha_funcs_Cospi fr_funcs_Cospi hr_funcs_Cospi G_funcs_Cospi out_funcs_Cospi)
theorem ok_funcs_Cospi : OrcOk PR c_funcs_Cospi := fnT okO_funcs_Cospi mixed p_funcs_Cospi (by kernel_rfl) (by kernel_rfl) (L := L_funcs_Cospi) (kp := false) (by kernel_rfl) (inn := inn_funcs_Cospi) (out := out_funcs_Cospi) (fun _ _ => rfl) (loopsL (l := []) (by kernel_rfl) trivial) (fun x y => by kernel_rfl)
noncomputable def O_anneallaw12_known : Orc := (orm c_funcs_Exp (orm c_funcs_Log (orm c_funcs_Tanh (orm c_funcs_Sigmoid c_funcs_Gelu))))
theorem okO_anneallaw12_known : OrcOk PR O_anneallaw12_known := (orm_ok ok_funcs_Exp (orm_ok ok_funcs_Log (orm_ok ok_funcs_Tanh (orm_ok ok_funcs_Sigmoid ok_funcs_Gelu))))
abbrev fa_anneallaw12_known : Fm := .unit
abbrev ha_anneallaw12_known : List BF := []
abbrev fr_anneallaw12_known : Fm := .b
abbrev hr_anneallaw12_known : List BF := []
noncomputable def L_anneallaw12_known : Lps := L0
def inn_anneallaw12_known : T fr_anneallaw12_known → TH hr_anneallaw12_known → Bool := (fun z w => z)
def out_anneallaw12_known : Bool → T fr_anneallaw12_known × TH hr_anneallaw12_known := fun r => (r, ())
noncomputable def F_anneallaw12_known  : Option (Bool) :=
  ((F_funcs_Exp (0:Int))).bind fun r0 =>
  bif (r0 == (1065353216:Int)) then
    ((F_funcs_Log (1065353216:Int))).bind fun r1 =>
    bif (r1 == (0:Int)) then
      ((F_funcs_Sigmoid (0:Int))).bind fun r2 =>
      bif (r2 == (1056964608:Int)) then
        ((F_funcs_Gelu (0:Int))).bind fun r3 =>
        (some (r3 == (0:Int)))
      else
        (some false)
    else
      (some false)
  else
    (some false)
noncomputable def G_anneallaw12_known : T fa_anneallaw12_known → TH ha_anneallaw12_known → Option (Bool) := fun x y => F_anneallaw12_known 
noncomputable def c_anneallaw12_known : Orc := ent i_anneallaw12_known [] 0 (sp fa_anneallaw12_known ha_anneallaw12_known fr_anneallaw12_known hr_anneallaw12_known G_anneallaw12_known out_anneallaw12_known)
theorem ok_anneallaw12_known : OrcOk PR c_anneallaw12_known := fnT okO_anneallaw12_known mixed p_anneallaw12_known (by kernel_rfl) (by kernel_rfl) (L := L_anneallaw12_known) (kp := false) (by kernel_rfl) (inn := inn_anneallaw12_known) (out := out_anneallaw12_known) (fun _ _ => rfl) (loopsL (l := []) (by kernel_rfl) trivial) (fun x y => by kernel_rfl)
end Go.Proofs.Ytkknnloamidaiaa.VI
