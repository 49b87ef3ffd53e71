import Derived.Test.YtcpicekmnkjceaaTConfigReads33
namespace Go.Proofs.Ytcpicekmnkjceaa.VI
set_option linter.unusedVariables false
set_option linter.unusedSimpArgs false
set_option linter.unusedSimpArgs false
set_option linter.unusedVariables false
set_option maxRecDepth 100000
set_option maxHeartbeats 4000000
theorem e1 {v : Int} (h : 0 ≤ v ∧ v < 256) : 0 + v * 2 ^ (8 * 0) = v := by simp
theorem e2 {v : Int} (h : 0 ≤ v ∧ v < 65536) : 0 + v / 2 ^ (8 * 0) % 256 * 2 ^ (8 * 0) + v / 2 ^ (8 * 1) % 256 * 2 ^ (8 * 1) = v := by
  simp only [Nat.reduceMul, Int.reducePow]; omega
theorem e4 {v : Int} (h : 0 ≤ v ∧ v < 4294967296) : 0 + v / 2 ^ (8 * 0) % 256 * 2 ^ (8 * 0) + v / 2 ^ (8 * 1) % 256 * 2 ^ (8 * 1) + v / 2 ^ (8 * 2) % 256 * 2 ^ (8 * 2) + v / 2 ^ (8 * 3) % 256 * 2 ^ (8 * 3) = v := by
  simp only [Nat.reduceMul, Int.reducePow]; omega
theorem e8 {v : Int} (h : 0 ≤ v ∧ v < 18446744073709551616) : 0 + v / 2 ^ (8 * 0) % 256 * 2 ^ (8 * 0) + v / 2 ^ (8 * 1) % 256 * 2 ^ (8 * 1) + v / 2 ^ (8 * 2) % 256 * 2 ^ (8 * 2) + v / 2 ^ (8 * 3) % 256 * 2 ^ (8 * 3) + v / 2 ^ (8 * 4) % 256 * 2 ^ (8 * 4) + v / 2 ^ (8 * 5) % 256 * 2 ^ (8 * 5) + v / 2 ^ (8 * 6) % 256 * 2 ^ (8 * 6) + v / 2 ^ (8 * 7) % 256 * 2 ^ (8 * 7) = v := by
  simp only [Nat.reduceMul, Int.reducePow]; omega
theorem wbs_drop (w : List Int) (t : List Int) {i : Nat} : ∀ {n : Nat}, i < n → ∃ r, (wbs w n ++ t).drop (2 * i) = bts 2 (w.getD i 0) ++ r
  | 0, h => by omega
  | n + 1, h => by
    simp only [wbs]
    by_cases e : i = n
    · subst e
      refine ⟨t, ?_⟩
      rw [List.append_assoc, List.drop_append_of_le_length (by rw [wbs_len]; exact Nat.le_refl _), List.drop_of_length_le (by rw [wbs_len]; exact Nat.le_refl _), List.nil_append]
    · obtain ⟨r, hr⟩ := wbs_drop w (bts 2 (w.getD n 0) ++ t) (i := i) (n := n) (by omega)
      exact ⟨r, by rw [List.append_assoc]; exact hr⟩
theorem enc_drop (c : CfgT) {j : Nat} : (enc_ c).drop (9 + j) = (wbs c.w c.w.length ++ tail c).drop j := by
  unfold enc_ head
  rw [← List.drop_drop]; rfl
theorem enc_tail (c : CfgT) : (enc_ c).drop (9 + 2 * c.w.length) = tail c := by
  rw [enc_drop, List.drop_append_of_le_length (by rw [wbs_len]; exact Nat.le_refl _), List.drop_of_length_le (by rw [wbs_len]; exact Nat.le_refl _), List.nil_append]
theorem wdec_enc {c : CfgT} (h : wok c.w) : ∀ n, n ≤ c.w.length → wdec (enc_ c) n = c.w.take n
  | 0, _ => by simp [wdec]
  | n + 1, hn => by
    rw [wdec, wdec_enc h n (by omega), enc_drop]
    obtain ⟨r, hr⟩ := wbs_drop c.w (tail c) (i := n) (n := c.w.length) (by omega)
    rw [hr]
    have hw := h.2.2 n (by omega)
    have : leN 2 (bts 2 (c.w.getD n 0) ++ r) = c.w.getD n 0 := e2 (v := c.w.getD n 0) (by omega)
    rw [this, List.take_add_one]
    have hg : c.w.getD n 0 = c.w[n]'(by omega) := by rw [List.getD_eq_getElem?_getD, List.getElem?_eq_getElem (by omega)]; rfl
    rw [hg, List.getElem?_eq_getElem (by omega)]; rfl
theorem enc_nW (c : CfgT) : nW (enc_ c) = c.w.length := by simp [nW, enc_, head]
theorem enc_flag (c : CfgT) : leN 1 (((enc_ c).drop (9 + 2 * nW (enc_ c))).drop 5) = flagN c.chance := by
  rw [enc_nW, enc_tail]
  exact (show _ = 0 + flagN c.chance * 2 ^ (8 * 0) from rfl).trans (by simp)
def cW (c : CfgT) : Prop := cU c ∧ (0 ≤ c.seed ∧ c.seed < 18446744073709551616) ∧ 0 ≤ c.drop
theorem dec_enc {c : CfgT} (hr : right c) (hc : cW c) : decC (enc_ c) c.chance = c := by
  unfold decC
  rw [enc_nW, enc_tail, wdec_enc hr.1 _ (Nat.le_refl _), List.take_length]
  obtain ⟨w, f, act, loss, opt, sched, rate, mu, beta, eps, decay, clip, warm, total, batch, accum, seed, drop, chance, log, mi, ma, bk, gr, itv, save, _⟩ := c
  obtain ⟨_, _, ⟨k1, k2, k3, k4, k5⟩, _, ⟨q1, q2, q3, q4, q5, q6, q7, q8, q9, q10, q11, q12⟩, _⟩ := hr
  obtain ⟨⟨u1, u2, u3, u4, u5, u6⟩, s1, s2⟩ := hc
  simp only [CfgT.f, CfgT.act, CfgT.loss, CfgT.opt, CfgT.sched, CfgT.rate, CfgT.mu, CfgT.beta, CfgT.eps, CfgT.decay, CfgT.clip, CfgT.warm, CfgT.total, CfgT.batch, CfgT.accum, CfgT.seed, CfgT.drop, CfgT.chance, CfgT.log, CfgT.mi, CfgT.ma, CfgT.bk, CfgT.gr, CfgT.itv, CfgT.save, CfgT.w] at *
  refine Prod.ext rfl ?_
  exact Prod.ext (e1 (v := f) (by omega)) (Prod.ext (e1 (v := act) (by omega)) (Prod.ext (e1 (v := loss) (by omega)) (Prod.ext (e1 (v := opt) (by omega)) (Prod.ext (e1 (v := sched) (by omega)) (Prod.ext (e4 (v := rate) (by omega)) (Prod.ext (e4 (v := mu) (by omega)) (Prod.ext (e4 (v := beta) (by omega)) (Prod.ext (e4 (v := eps) (by omega)) (Prod.ext (e4 (v := decay) (by omega)) (Prod.ext (e4 (v := clip) (by omega)) (Prod.ext (e4 (v := warm) (by omega)) (Prod.ext (e4 (v := total) (by omega)) (Prod.ext (e2 (v := batch) (by omega)) (Prod.ext (e2 (v := accum) (by omega)) (Prod.ext (e8 (v := seed) (by omega)) (Prod.ext (e4 (v := drop) (by omega)) (Prod.ext rfl (Prod.ext (e1 (v := log) (by omega)) (Prod.ext (e1 (v := mi) (by omega)) (Prod.ext (e1 (v := ma) (by omega)) (Prod.ext (e1 (v := bk) (by omega)) (Prod.ext (e1 (v := gr) (by omega)) (Prod.ext (e4 (v := itv) (by omega)) (Prod.ext (e4 (v := save) (by omega)) (rfl)))))))))))))))))))))))))
theorem isE_dec {b : List Int} {c : CfgT} (h : isE b c) (hc : cW c) : decP b = c ∧ decQ b = c := by
  obtain ⟨hr, rfl⟩ := h
  have hd := dec_enc hr hc
  unfold decP decQ
  rw [enc_flag]
  have e1 : (flagN c.chance != 0) = c.chance := by cases c.chance <;> rfl
  have e2 : (flagN c.chance == 1) = c.chance := by cases c.chance <;> rfl
  rw [e1, e2]; exact ⟨hd, hd⟩
theorem decC_W {b : List Int} (h : byt b) (ch : Bool) : cW (decC b ch) := ⟨decC_cU h ch, decC_sd h ch⟩
theorem isE_iff {b : List Int} (h : byt b) : isE b (decP b) ↔ isE b (decQ b) := by
  constructor
  · intro k
    have := (isE_dec k (decC_W h _)).2
    rw [this]; exact k
  · intro k
    have := (isE_dec k (decC_W h _)).1
    rw [this]; exact k
noncomputable def rd (b : List Int) : CfgT × Int × Unit := if isE b (decP b) then (decP b, 0, ()) else (zCfg, 20, ())
theorem cread {b : List Int} (h : byt b) (hL : b.length ≤ 1073741824) : F_config_Read b = some (rd b) := cread_eq h hL
theorem rread {b : List Int} (h : byt b) (hL : b.length ≤ 1073741824) : F_annealref24_Read b = some (rd b) := by
  rw [rread_eq h hL]
  unfold rd
  by_cases k : isE b (decP b)
  · have e := (isE_dec k (decC_W h _)).2
    rw [if_pos k, if_pos ((isE_iff h).1 k), e]
  · rw [if_neg k, if_neg fun j => k ((isE_iff h).2 j)]
theorem rd_enc {c : CfgT} (hr : right c) (hc : cW c) : rd (enc_ c) = (c, 0, ()) := by
  unfold rd
  have := (isE_dec ⟨hr, rfl⟩ hc).1
  rw [this, if_pos ⟨hr, rfl⟩]
end Go.Proofs.Ytcpicekmnkjceaa.VI

namespace Go.Proofs.Ytcpicekmnkjceaa.VI
set_option linter.unusedVariables false
set_option linter.unusedSimpArgs false
set_option maxRecDepth 100000
set_option linter.unusedSimpArgs false
set_option linter.unusedVariables false
noncomputable def O_annealhelp_Ints : Orc := orn
theorem okO_annealhelp_Ints : OrcOk PR O_annealhelp_Ints := (orn_ok _)
abbrev fa_annealhelp_Ints : Fm := (.pair (.si .i64) (.pair (.si .i64) .unit))
abbrev ha_annealhelp_Ints : List BF := []
abbrev fr_annealhelp_Ints : Fm := .b
abbrev hr_annealhelp_Ints : List BF := []
abbrev ff_annealhelp_Ints_0 : Fm := (.pair (.si .i64) (.pair (.si .i64) (.us 3 (.pair (.i .i64) (.us 20 .unit)))))
abbrev hf_annealhelp_Ints_0 : List BF := []
abbrev X_annealhelp_Ints_0 : Xs := (.alt (.exit 0) [] (.us 26 .unit) [] (.one .ret [4] (.us 4 (.pair .b (.us 21 .unit))) []))
abbrev S_annealhelp_Ints_0 : Type := T ff_annealhelp_Ints_0 × TH hf_annealhelp_Ints_0
abbrev E_annealhelp_Ints_0 : Type := TX X_annealhelp_Ints_0
noncomputable def LB_annealhelp_Ints_0 : Lps := L0
noncomputable def st_annealhelp_Ints_0 : StepT S_annealhelp_Ints_0 E_annealhelp_Ints_0 := fun R v kn ko =>
  let x0 : List Int := v.1.1
  let x1 : Int := v.1.2.2.1
  let x2 : Nat := (Int.toNat x1)
  let x3 : List Int := v.1.2.1
  bif (decide (x1 < (((List.length x0) : Nat) : Int))) then
    bif (decide (((0:Int) ≤ x1) ∧ (x1 < (((List.length x0) : Nat) : Int)))) then
      bif (decide (((0:Int) ≤ x1) ∧ (x1 < (((List.length x3) : Nat) : Int)))) then
        bif ((List.getD x0 x2 (0:Int)) != (List.getD x3 x2 (0:Int))) then
          (ko (Sum.inr ((false, ()), ())))
        else
          (kn (((List.take (List.length x0) x0), ((List.take (List.length x3) x3), ((IntKind.wrap .i64 (x1 + (1:Int))), ()))), ()))
      else
        none
    else
      none
  else
    (ko (Sum.inl ((), ())))
noncomputable def ls_annealhelp_Ints_0 : St → LTr := (lsum ff_annealhelp_Ints_0 hf_annealhelp_Ints_0 X_annealhelp_Ints_0 Prod.mk id st_annealhelp_Ints_0 (hd [] [] [0, 1, 5] 0))
theorem lp_annealhelp_Ints_0 : LoopOk PR 0 (lpN f_annealhelp_Ints 0) ls_annealhelp_Ints_0 := loopT okO_annealhelp_Ints mixed (L := LB_annealhelp_Ints_0) (d := 1) (bs := []) (ks := [0, 1, 5]) (loopsL (l := []) (by kernel_rfl) trivial) (by kernel_rfl) (inS := Prod.mk) (outS := id) (fun _ _ => rfl) (inX := id) (outX := id) (fun _ => rfl) (fun v R kn ko => by kernel_rfl) (hd_wk [] [] [0, 1, 5] 0)
noncomputable def L_annealhelp_Ints : Lps := (lpB 5 (.by_ ls_annealhelp_Ints_0) L0)
def inn_annealhelp_Ints : T fr_annealhelp_Ints → TH hr_annealhelp_Ints → Bool := (fun z w => z)
def out_annealhelp_Ints : Bool → T fr_annealhelp_Ints × TH hr_annealhelp_Ints := fun r => (r, ())
noncomputable def F_annealhelp_Ints (a0 : List Int) (a1 : List Int) : Option (Bool) :=
  bif ((((List.length a0) : Nat) : Int) != (((List.length a1) : Nat) : Int)) then
    (some false)
  else
    ((lim st_annealhelp_Ints_0 (((List.take (List.length a0) a0), ((List.take (List.length a1) a1), ((0:Int), ()))), ()))).bind fun r0 =>
    els (fun l1 =>
      (some true)) (fun r2 =>
      (some r2.1.1)) r0
noncomputable def G_annealhelp_Ints : T fa_annealhelp_Ints → TH ha_annealhelp_Ints → Option (Bool) := fun x y => F_annealhelp_Ints x.1 x.2.1
noncomputable def c_annealhelp_Ints : Orc := ent i_annealhelp_Ints [] 0 (sp fa_annealhelp_Ints ha_annealhelp_Ints fr_annealhelp_Ints hr_annealhelp_Ints G_annealhelp_Ints out_annealhelp_Ints)
theorem ok_annealhelp_Ints : OrcOk PR c_annealhelp_Ints := fnT okO_annealhelp_Ints mixed p_annealhelp_Ints (by kernel_rfl) (by kernel_rfl) (L := L_annealhelp_Ints) (kp := false) (by kernel_rfl) (inn := inn_annealhelp_Ints) (out := out_annealhelp_Ints) (fun _ _ => rfl) (loopsL (l := [((lpN f_annealhelp_Ints 0), ls_annealhelp_Ints_0)]) (by kernel_rfl) ⟨lp_annealhelp_Ints_0, trivial⟩) (fun x y => by kernel_rfl)
noncomputable def O_annealhelp_Config : Orc := c_annealhelp_Ints
theorem okO_annealhelp_Config : OrcOk PR O_annealhelp_Config := ok_annealhelp_Ints
abbrev fa_annealhelp_Config : Fm := (.pair (.agg (.pair (.si .i64) (.pair (.i .i64) (.pair (.i .i64) (.pair (.i .i64) (.pair (.i .i64) (.pair (.i .i64) (.pair (.i .u32) (.pair (.i .u32) (.pair (.i .u32) (.pair (.i .u32) (.pair (.i .u32) (.pair (.i .u32) (.pair (.i .i64) (.pair (.i .i64) (.pair (.i .i64) (.pair (.i .i64) (.pair (.i .u64) (.pair (.i .u32) (.pair .b (.pair (.i .i64) (.pair (.i .i64) (.pair (.i .i64) (.pair (.i .i64) (.pair (.i .i64) (.pair (.i .i64) (.pair (.i .i64) .unit))))))))))))))))))))))))))) (.pair (.agg (.pair (.si .i64) (.pair (.i .i64) (.pair (.i .i64) (.pair (.i .i64) (.pair (.i .i64) (.pair (.i .i64) (.pair (.i .u32) (.pair (.i .u32) (.pair (.i .u32) (.pair (.i .u32) (.pair (.i .u32) (.pair (.i .u32) (.pair (.i .i64) (.pair (.i .i64) (.pair (.i .i64) (.pair (.i .i64) (.pair (.i .u64) (.pair (.i .u32) (.pair .b (.pair (.i .i64) (.pair (.i .i64) (.pair (.i .i64) (.pair (.i .i64) (.pair (.i .i64) (.pair (.i .i64) (.pair (.i .i64) .unit))))))))))))))))))))))))))) .unit))
abbrev ha_annealhelp_Config : List BF := []
abbrev fr_annealhelp_Config : Fm := .b
abbrev hr_annealhelp_Config : List BF := []
noncomputable def L_annealhelp_Config : Lps := L0
def inn_annealhelp_Config : T fr_annealhelp_Config → TH hr_annealhelp_Config → Bool := (fun z w => z)
def out_annealhelp_Config : Bool → T fr_annealhelp_Config × TH hr_annealhelp_Config := fun r => (r, ())
noncomputable def F_annealhelp_Config (a0 : List Int × Int × Int × Int × Int × Int × Int × Int × Int × Int × Int × Int × Int × Int × Int × Int × Int × Int × Bool × Int × Int × Int × Int × Int × Int × Int × Unit) (a1 : List Int × Int × Int × Int × Int × Int × Int × Int × Int × Int × Int × Int × Int × Int × Int × Int × Int × Int × Bool × Int × Int × Int × Int × Int × Int × Int × Unit) : Option (Bool) :=
  let x0 : Int := a0.2.2.1
  let x1 : Int := a1.2.2.1
  let x2 : Int := a0.2.2.2.1
  let x3 : Int := a1.2.2.2.1
  let x4 : Int := a0.2.2.2.2.1
  let x5 : Int := a1.2.2.2.2.1
  let x6 : Int := a0.2.2.2.2.2.1
  let x7 : Int := a1.2.2.2.2.2.1
  let x8 : Int := a0.2.2.2.2.2.2.1
  let x9 : Int := a1.2.2.2.2.2.2.1
  let x10 : Int := a0.2.2.2.2.2.2.2.1
  let x11 : Int := a1.2.2.2.2.2.2.2.1
  let x12 : Int := a0.2.2.2.2.2.2.2.2.1
  let x13 : Int := a1.2.2.2.2.2.2.2.2.1
  let x14 : Int := a0.2.2.2.2.2.2.2.2.2.1
  let x15 : Int := a1.2.2.2.2.2.2.2.2.2.1
  let x16 : Int := a0.2.2.2.2.2.2.2.2.2.2.1
  let x17 : Int := a1.2.2.2.2.2.2.2.2.2.2.1
  let x18 : Int := a0.2.2.2.2.2.2.2.2.2.2.2.1
  let x19 : Int := a1.2.2.2.2.2.2.2.2.2.2.2.1
  let x20 : Int := a0.2.2.2.2.2.2.2.2.2.2.2.2.1
  let x21 : Int := a1.2.2.2.2.2.2.2.2.2.2.2.2.1
  let x22 : Int := a0.2.2.2.2.2.2.2.2.2.2.2.2.2.1
  let x23 : Int := a1.2.2.2.2.2.2.2.2.2.2.2.2.2.1
  let x24 : Int := a0.2.2.2.2.2.2.2.2.2.2.2.2.2.2.1
  let x25 : Int := a1.2.2.2.2.2.2.2.2.2.2.2.2.2.2.1
  let x26 : Int := a0.2.2.2.2.2.2.2.2.2.2.2.2.2.2.2.1
  let x27 : Int := a1.2.2.2.2.2.2.2.2.2.2.2.2.2.2.2.1
  let x28 : Int := a0.2.2.2.2.2.2.2.2.2.2.2.2.2.2.2.2.1
  let x29 : Int := a1.2.2.2.2.2.2.2.2.2.2.2.2.2.2.2.2.1
  let x30 : Int := a0.2.2.2.2.2.2.2.2.2.2.2.2.2.2.2.2.2.1
  let x31 : Int := a1.2.2.2.2.2.2.2.2.2.2.2.2.2.2.2.2.2.1
  let x32 : Bool := a0.2.2.2.2.2.2.2.2.2.2.2.2.2.2.2.2.2.2.1
  let x33 : Bool := a1.2.2.2.2.2.2.2.2.2.2.2.2.2.2.2.2.2.2.1
  let x34 : Int := a0.2.2.2.2.2.2.2.2.2.2.2.2.2.2.2.2.2.2.2.1
  let x35 : Int := a1.2.2.2.2.2.2.2.2.2.2.2.2.2.2.2.2.2.2.2.1
  let x36 : Int := a0.2.2.2.2.2.2.2.2.2.2.2.2.2.2.2.2.2.2.2.2.1
  let x37 : Int := a1.2.2.2.2.2.2.2.2.2.2.2.2.2.2.2.2.2.2.2.2.1
  let x38 : Int := a0.2.2.2.2.2.2.2.2.2.2.2.2.2.2.2.2.2.2.2.2.2.1
  let x39 : Int := a1.2.2.2.2.2.2.2.2.2.2.2.2.2.2.2.2.2.2.2.2.2.1
  let x40 : Int := a0.2.2.2.2.2.2.2.2.2.2.2.2.2.2.2.2.2.2.2.2.2.2.1
  let x41 : Int := a1.2.2.2.2.2.2.2.2.2.2.2.2.2.2.2.2.2.2.2.2.2.2.1
  let x42 : Int := a0.2.2.2.2.2.2.2.2.2.2.2.2.2.2.2.2.2.2.2.2.2.2.2.1
  let x43 : Int := a1.2.2.2.2.2.2.2.2.2.2.2.2.2.2.2.2.2.2.2.2.2.2.2.1
  let x44 : Int := a0.2.2.2.2.2.2.2.2.2.2.2.2.2.2.2.2.2.2.2.2.2.2.2.2.1
  let x45 : Int := a1.2.2.2.2.2.2.2.2.2.2.2.2.2.2.2.2.2.2.2.2.2.2.2.2.1
  let x46 : Int := a0.2.2.2.2.2.2.2.2.2.2.2.2.2.2.2.2.2.2.2.2.2.2.2.2.2.1
  let x47 : Int := a1.2.2.2.2.2.2.2.2.2.2.2.2.2.2.2.2.2.2.2.2.2.2.2.2.2.1
  ((F_annealhelp_Ints (List.take (List.length a0.1) a0.1) (List.take (List.length a1.1) a1.1))).bind fun r48 =>
  bif r48 then
    bif (a0.2.1 == a1.2.1) then
      bif (x0 == x1) then
        bif (x2 == x3) then
          bif (x4 == x5) then
            bif (x6 == x7) then
              bif (x8 == x9) then
                bif (x10 == x11) then
                  bif (x12 == x13) then
                    bif (x14 == x15) then
                      bif (x16 == x17) then
                        bif (x18 == x19) then
                          bif (x20 == x21) then
                            bif (x22 == x23) then
                              bif (x24 == x25) then
                                bif (x26 == x27) then
                                  bif (x28 == x29) then
                                    bif (x30 == x31) then
                                      bif (x32 == x33) then
                                        bif (x34 == x35) then
                                          bif (x36 == x37) then
                                            bif (x38 == x39) then
                                              bif (x40 == x41) then
                                                bif (x42 == x43) then
                                                  bif (x44 == x45) then
                                                    (some (x46 == x47))
                                                  else
                                                    (some false)
                                                else
                                                  (some false)
                                              else
                                                (some false)
                                            else
                                              (some false)
                                          else
                                            (some false)
                                        else
                                          (some false)
                                      else
                                        (some false)
                                    else
                                      (some false)
                                  else
                                    (some false)
                                else
                                  (some false)
                              else
                                (some false)
                            else
                              (some false)
                          else
                            (some false)
                        else
                          (some false)
                      else
                        (some false)
                    else
                      (some false)
                  else
                    (some false)
                else
                  (some false)
              else
                (some false)
            else
              (some false)
          else
            (some false)
        else
          (some false)
      else
        (some false)
    else
      (some false)
  else
    (some false)
noncomputable def G_annealhelp_Config : T fa_annealhelp_Config → TH ha_annealhelp_Config → Option (Bool) := fun x y => F_annealhelp_Config x.1 x.2.1
noncomputable def c_annealhelp_Config : Orc := ent i_annealhelp_Config [] 0 (sp fa_annealhelp_Config ha_annealhelp_Config fr_annealhelp_Config hr_annealhelp_Config G_annealhelp_Config out_annealhelp_Config)
theorem ok_annealhelp_Config : OrcOk PR c_annealhelp_Config := fnT okO_annealhelp_Config mixed p_annealhelp_Config (by kernel_rfl) (by kernel_rfl) (L := L_annealhelp_Config) (kp := false) (by kernel_rfl) (inn := inn_annealhelp_Config) (out := out_annealhelp_Config) (fun _ _ => rfl) (loopsL (l := []) (by kernel_rfl) trivial) (fun x y => by kernel_rfl)
noncomputable def O_slices_EqualLLJint_intJ : Orc := orn
theorem okO_slices_EqualLLJint_intJ : OrcOk PR O_slices_EqualLLJint_intJ := (orn_ok _)
abbrev fa_slices_EqualLLJint_intJ : Fm := (.pair (.si .i64) (.pair (.si .i64) .unit))
abbrev ha_slices_EqualLLJint_intJ : List BF := []
abbrev fr_slices_EqualLLJint_intJ : Fm := .b
abbrev hr_slices_EqualLLJint_intJ : List BF := []
abbrev ff_slices_EqualLLJint_intJ_0 : Fm := (.pair (.si .i64) (.pair (.si .i64) (.us 10 (.pair (.i .i64) (.pair (.i .i64) (.us 12 .unit))))))
abbrev hf_slices_EqualLLJint_intJ_0 : List BF := []
abbrev X_slices_EqualLLJint_intJ_0 : Xs := (.alt (.exit 0) [] (.us 26 .unit) [] (.one .ret [4] (.us 4 (.pair .b (.us 21 .unit))) []))
abbrev S_slices_EqualLLJint_intJ_0 : Type := T ff_slices_EqualLLJint_intJ_0 × TH hf_slices_EqualLLJint_intJ_0
abbrev E_slices_EqualLLJint_intJ_0 : Type := TX X_slices_EqualLLJint_intJ_0
noncomputable def LB_slices_EqualLLJint_intJ_0 : Lps := L0
noncomputable def st_slices_EqualLLJint_intJ_0 : StepT S_slices_EqualLLJint_intJ_0 E_slices_EqualLLJint_intJ_0 := fun R v kn ko =>
  let x0 : List Int := v.1.1
  let x1 : Int := v.1.2.2.2.1
  let x2 : Nat := (Int.toNat x1)
  let x3 : List Int := v.1.2.1
  bif (decide (x1 < v.1.2.2.1)) then
    bif (decide (((0:Int) ≤ x1) ∧ (x1 < (((List.length x0) : Nat) : Int)))) then
      bif (decide (((0:Int) ≤ x1) ∧ (x1 < (((List.length x3) : Nat) : Int)))) then
        bif ((List.getD x0 x2 (0:Int)) != (List.getD x3 x2 (0:Int))) then
          (ko (Sum.inr ((false, ()), ())))
        else
          (kn (((List.take (List.length x0) x0), ((List.take (List.length x3) x3), (v.1.2.2.1, ((IntKind.wrap .i64 (x1 + (1:Int))), ())))), ()))
      else
        none
    else
      none
  else
    (ko (Sum.inl ((), ())))
noncomputable def ls_slices_EqualLLJint_intJ_0 : St → LTr := (lsum ff_slices_EqualLLJint_intJ_0 hf_slices_EqualLLJint_intJ_0 X_slices_EqualLLJint_intJ_0 Prod.mk id st_slices_EqualLLJint_intJ_0 (hd [] [] [0, 1, 12, 13] 0))
theorem lp_slices_EqualLLJint_intJ_0 : LoopOk PR 0 (lpN f_slices_EqualLLJint_intJ 0) ls_slices_EqualLLJint_intJ_0 := loopT okO_slices_EqualLLJint_intJ mixed (L := LB_slices_EqualLLJint_intJ_0) (d := 1) (bs := []) (ks := [0, 1, 12, 13]) (loopsL (l := []) (by kernel_rfl) trivial) (by kernel_rfl) (inS := Prod.mk) (outS := id) (fun _ _ => rfl) (inX := id) (outX := id) (fun _ => rfl) (fun v R kn ko => by kernel_rfl) (hd_wk [] [] [0, 1, 12, 13] 0)
noncomputable def L_slices_EqualLLJint_intJ : Lps := (lpB 5 (.by_ ls_slices_EqualLLJint_intJ_0) L0)
def inn_slices_EqualLLJint_intJ : T fr_slices_EqualLLJint_intJ → TH hr_slices_EqualLLJint_intJ → Bool := (fun z w => z)
def out_slices_EqualLLJint_intJ : Bool → T fr_slices_EqualLLJint_intJ × TH hr_slices_EqualLLJint_intJ := fun r => (r, ())
noncomputable def F_slices_EqualLLJint_intJ (a0 : List Int) (a1 : List Int) : Option (Bool) :=
  bif ((((List.length a0) : Nat) : Int) != (((List.length a1) : Nat) : Int)) then
    (some false)
  else
    ((lim st_slices_EqualLLJint_intJ_0 (((List.take (List.length a0) a0), ((List.take (List.length a1) a1), ((((List.length a0) : Nat) : Int), ((0:Int), ())))), ()))).bind fun r0 =>
    els (fun l1 =>
      (some true)) (fun r2 =>
      (some r2.1.1)) r0
noncomputable def G_slices_EqualLLJint_intJ : T fa_slices_EqualLLJint_intJ → TH ha_slices_EqualLLJint_intJ → Option (Bool) := fun x y => F_slices_EqualLLJint_intJ x.1 x.2.1
noncomputable def c_slices_EqualLLJint_intJ : Orc := ent i_slices_EqualLLJint_intJ [] 0 (sp fa_slices_EqualLLJint_intJ ha_slices_EqualLLJint_intJ fr_slices_EqualLLJint_intJ hr_slices_EqualLLJint_intJ G_slices_EqualLLJint_intJ out_slices_EqualLLJint_intJ)
theorem ok_slices_EqualLLJint_intJ : OrcOk PR c_slices_EqualLLJint_intJ := fnT okO_slices_EqualLLJint_intJ mixed p_slices_EqualLLJint_intJ (by kernel_rfl) (by kernel_rfl) (L := L_slices_EqualLLJint_intJ) (kp := false) (by kernel_rfl) (inn := inn_slices_EqualLLJint_intJ) (out := out_slices_EqualLLJint_intJ) (fun _ _ => rfl) (loopsL (l := [((lpN f_slices_EqualLLJint_intJ 0), ls_slices_EqualLLJint_intJ_0)]) (by kernel_rfl) ⟨lp_slices_EqualLLJint_intJ_0, trivial⟩) (fun x y => by kernel_rfl)
noncomputable def O_config_bare : Orc := orn
theorem okO_config_bare : OrcOk PR O_config_bare := (orn_ok _)
abbrev fa_config_bare : Fm := (.pair (.agg (.pair (.si .i64) (.pair (.i .i64) (.pair (.i .i64) (.pair (.i .i64) (.pair (.i .i64) (.pair (.i .i64) (.pair (.i .u32) (.pair (.i .u32) (.pair (.i .u32) (.pair (.i .u32) (.pair (.i .u32) (.pair (.i .u32) (.pair (.i .i64) (.pair (.i .i64) (.pair (.i .i64) (.pair (.i .i64) (.pair (.i .u64) (.pair (.i .u32) (.pair .b (.pair (.i .i64) (.pair (.i .i64) (.pair (.i .i64) (.pair (.i .i64) (.pair (.i .i64) (.pair (.i .i64) (.pair (.i .i64) .unit))))))))))))))))))))))))))) .unit)
abbrev ha_config_bare : List BF := []
abbrev fr_config_bare : Fm := (.agg (.pair (.rep 5 (.i .i64)) (.pair (.rep 7 (.i .u32)) (.pair (.rep 4 (.i .i64)) (.pair (.rep 7 (.i .i64)) (.pair (.i .u64) (.pair .b .unit)))))))
abbrev hr_config_bare : List BF := []
noncomputable def L_config_bare : Lps := L0
def inn_config_bare : T fr_config_bare → TH hr_config_bare → List (Int) × List (Int) × List (Int) × List (Int) × Int × Bool × Unit := (fun z w => z)
def out_config_bare : List (Int) × List (Int) × List (Int) × List (Int) × Int × Bool × Unit → T fr_config_bare × TH hr_config_bare := fun r => (r, ())
noncomputable def F_config_bare (a0 : List Int × Int × Int × Int × Int × Int × Int × Int × Int × Int × Int × Int × Int × Int × Int × Int × Int × Int × Bool × Int × Int × Int × Int × Int × Int × Int × Unit) : Option (List (Int) × List (Int) × List (Int) × List (Int) × Int × Bool × Unit) :=
  let x0 : Int := a0.2.2.1
  let x1 : Int := a0.2.2.2.1
  let x2 : Int := a0.2.2.2.2.1
  let x3 : Int := a0.2.2.2.2.2.1
  let x4 : Int := a0.2.2.2.2.2.2.1
  let x5 : Int := a0.2.2.2.2.2.2.2.1
  let x6 : Int := a0.2.2.2.2.2.2.2.2.1
  let x7 : Int := a0.2.2.2.2.2.2.2.2.2.1
  let x8 : Int := a0.2.2.2.2.2.2.2.2.2.2.1
  let x9 : Int := a0.2.2.2.2.2.2.2.2.2.2.2.1
  let x10 : Int := a0.2.2.2.2.2.2.2.2.2.2.2.2.2.2.2.2.2.1
  let x11 : Int := a0.2.2.2.2.2.2.2.2.2.2.2.2.1
  let x12 : Int := a0.2.2.2.2.2.2.2.2.2.2.2.2.2.1
  let x13 : Int := a0.2.2.2.2.2.2.2.2.2.2.2.2.2.2.1
  let x14 : Int := a0.2.2.2.2.2.2.2.2.2.2.2.2.2.2.2.1
  let x15 : Int := a0.2.2.2.2.2.2.2.2.2.2.2.2.2.2.2.2.2.2.2.1
  let x16 : Int := a0.2.2.2.2.2.2.2.2.2.2.2.2.2.2.2.2.2.2.2.2.1
  let x17 : Int := a0.2.2.2.2.2.2.2.2.2.2.2.2.2.2.2.2.2.2.2.2.2.1
  let x18 : Int := a0.2.2.2.2.2.2.2.2.2.2.2.2.2.2.2.2.2.2.2.2.2.2.1
  let x19 : Int := a0.2.2.2.2.2.2.2.2.2.2.2.2.2.2.2.2.2.2.2.2.2.2.2.1
  let x20 : Int := a0.2.2.2.2.2.2.2.2.2.2.2.2.2.2.2.2.2.2.2.2.2.2.2.2.1
  let x21 : Int := a0.2.2.2.2.2.2.2.2.2.2.2.2.2.2.2.2.2.2.2.2.2.2.2.2.2.1
  let x22 : Int := a0.2.2.2.2.2.2.2.2.2.2.2.2.2.2.2.2.1
  let x23 : Bool := a0.2.2.2.2.2.2.2.2.2.2.2.2.2.2.2.2.2.2.1
  (some ([a0.2.1, x0, x1, x2, x3], ([x4, x5, x6, x7, x8, x9, x10], ([x11, x12, x13, x14], ([x15, x16, x17, x18, x19, x20, x21], (x22, (x23, ())))))))
noncomputable def G_config_bare : T fa_config_bare → TH ha_config_bare → Option (List (Int) × List (Int) × List (Int) × List (Int) × Int × Bool × Unit) := fun x y => F_config_bare x.1
noncomputable def c_config_bare : Orc := ent i_config_bare [] 0 (sp fa_config_bare ha_config_bare fr_config_bare hr_config_bare G_config_bare out_config_bare)
theorem ok_config_bare : OrcOk PR c_config_bare := fnT okO_config_bare mixed p_config_bare (by kernel_rfl) (by kernel_rfl) (L := L_config_bare) (kp := false) (by kernel_rfl) (inn := inn_config_bare) (out := out_config_bare) (fun _ _ => rfl) (loopsL (l := []) (by kernel_rfl) trivial) (fun x y => by kernel_rfl)
noncomputable def O_config_Same : Orc := (orm c_slices_EqualLLJint_intJ c_config_bare)
theorem okO_config_Same : OrcOk PR O_config_Same := (orm_ok ok_slices_EqualLLJint_intJ ok_config_bare)
abbrev fa_config_Same : Fm := (.pair (.agg (.pair (.si .i64) (.pair (.i .i64) (.pair (.i .i64) (.pair (.i .i64) (.pair (.i .i64) (.pair (.i .i64) (.pair (.i .u32) (.pair (.i .u32) (.pair (.i .u32) (.pair (.i .u32) (.pair (.i .u32) (.pair (.i .u32) (.pair (.i .i64) (.pair (.i .i64) (.pair (.i .i64) (.pair (.i .i64) (.pair (.i .u64) (.pair (.i .u32) (.pair .b (.pair (.i .i64) (.pair (.i .i64) (.pair (.i .i64) (.pair (.i .i64) (.pair (.i .i64) (.pair (.i .i64) (.pair (.i .i64) .unit))))))))))))))))))))))))))) (.pair (.agg (.pair (.si .i64) (.pair (.i .i64) (.pair (.i .i64) (.pair (.i .i64) (.pair (.i .i64) (.pair (.i .i64) (.pair (.i .u32) (.pair (.i .u32) (.pair (.i .u32) (.pair (.i .u32) (.pair (.i .u32) (.pair (.i .u32) (.pair (.i .i64) (.pair (.i .i64) (.pair (.i .i64) (.pair (.i .i64) (.pair (.i .u64) (.pair (.i .u32) (.pair .b (.pair (.i .i64) (.pair (.i .i64) (.pair (.i .i64) (.pair (.i .i64) (.pair (.i .i64) (.pair (.i .i64) (.pair (.i .i64) .unit))))))))))))))))))))))))))) .unit))
abbrev ha_config_Same : List BF := []
abbrev fr_config_Same : Fm := .b
abbrev hr_config_Same : List BF := []
noncomputable def L_config_Same : Lps := L0
def inn_config_Same : T fr_config_Same → TH hr_config_Same → Bool := (fun z w => z)
def out_config_Same : Bool → T fr_config_Same × TH hr_config_Same := fun r => (r, ())
noncomputable def F_config_Same (a0 : List Int × Int × Int × Int × Int × Int × Int × Int × Int × Int × Int × Int × Int × Int × Int × Int × Int × Int × Bool × Int × Int × Int × Int × Int × Int × Int × Unit) (a1 : List Int × Int × Int × Int × Int × Int × Int × Int × Int × Int × Int × Int × Int × Int × Int × Int × Int × Int × Bool × Int × Int × Int × Int × Int × Int × Int × Unit) : Option (Bool) :=
  let x0 : Int := a0.2.2.1
  let x1 : Int := a0.2.2.2.1
  let x2 : Int := a0.2.2.2.2.1
  let x3 : Int := a0.2.2.2.2.2.1
  let x4 : List Int := [a0.2.1, x0, x1, x2, x3]
  let x5 : Int := a1.2.2.1
  let x6 : Int := a1.2.2.2.1
  let x7 : Int := a1.2.2.2.2.1
  let x8 : Int := a1.2.2.2.2.2.1
  let x9 : List Int := [a1.2.1, x5, x6, x7, x8]
  let x10 : Int := a0.2.2.2.2.2.2.1
  let x11 : Int := a0.2.2.2.2.2.2.2.1
  let x12 : Int := a0.2.2.2.2.2.2.2.2.1
  let x13 : Int := a0.2.2.2.2.2.2.2.2.2.1
  let x14 : Int := a0.2.2.2.2.2.2.2.2.2.2.1
  let x15 : Int := a0.2.2.2.2.2.2.2.2.2.2.2.1
  let x16 : Int := a0.2.2.2.2.2.2.2.2.2.2.2.2.2.2.2.2.2.1
  let x17 : List Int := [x10, x11, x12, x13, x14, x15, x16]
  let x18 : Int := a1.2.2.2.2.2.2.1
  let x19 : Int := a1.2.2.2.2.2.2.2.1
  let x20 : Int := a1.2.2.2.2.2.2.2.2.1
  let x21 : Int := a1.2.2.2.2.2.2.2.2.2.1
  let x22 : Int := a1.2.2.2.2.2.2.2.2.2.2.1
  let x23 : Int := a1.2.2.2.2.2.2.2.2.2.2.2.1
  let x24 : Int := a1.2.2.2.2.2.2.2.2.2.2.2.2.2.2.2.2.2.1
  let x25 : List Int := [x18, x19, x20, x21, x22, x23, x24]
  let x26 : Int := a0.2.2.2.2.2.2.2.2.2.2.2.2.1
  let x27 : Int := a0.2.2.2.2.2.2.2.2.2.2.2.2.2.1
  let x28 : Int := a0.2.2.2.2.2.2.2.2.2.2.2.2.2.2.1
  let x29 : Int := a0.2.2.2.2.2.2.2.2.2.2.2.2.2.2.2.1
  let x30 : List Int := [x26, x27, x28, x29]
  let x31 : Int := a1.2.2.2.2.2.2.2.2.2.2.2.2.1
  let x32 : Int := a1.2.2.2.2.2.2.2.2.2.2.2.2.2.1
  let x33 : Int := a1.2.2.2.2.2.2.2.2.2.2.2.2.2.2.1
  let x34 : Int := a1.2.2.2.2.2.2.2.2.2.2.2.2.2.2.2.1
  let x35 : List Int := [x31, x32, x33, x34]
  let x36 : Int := a0.2.2.2.2.2.2.2.2.2.2.2.2.2.2.2.2.2.2.2.1
  let x37 : Int := a0.2.2.2.2.2.2.2.2.2.2.2.2.2.2.2.2.2.2.2.2.1
  let x38 : Int := a0.2.2.2.2.2.2.2.2.2.2.2.2.2.2.2.2.2.2.2.2.2.1
  let x39 : Int := a0.2.2.2.2.2.2.2.2.2.2.2.2.2.2.2.2.2.2.2.2.2.2.1
  let x40 : Int := a0.2.2.2.2.2.2.2.2.2.2.2.2.2.2.2.2.2.2.2.2.2.2.2.1
  let x41 : Int := a0.2.2.2.2.2.2.2.2.2.2.2.2.2.2.2.2.2.2.2.2.2.2.2.2.1
  let x42 : Int := a0.2.2.2.2.2.2.2.2.2.2.2.2.2.2.2.2.2.2.2.2.2.2.2.2.2.1
  let x43 : List Int := [x36, x37, x38, x39, x40, x41, x42]
  let x44 : Int := a1.2.2.2.2.2.2.2.2.2.2.2.2.2.2.2.2.2.2.2.1
  let x45 : Int := a1.2.2.2.2.2.2.2.2.2.2.2.2.2.2.2.2.2.2.2.2.1
  let x46 : Int := a1.2.2.2.2.2.2.2.2.2.2.2.2.2.2.2.2.2.2.2.2.2.1
  let x47 : Int := a1.2.2.2.2.2.2.2.2.2.2.2.2.2.2.2.2.2.2.2.2.2.2.1
  let x48 : Int := a1.2.2.2.2.2.2.2.2.2.2.2.2.2.2.2.2.2.2.2.2.2.2.2.1
  let x49 : Int := a1.2.2.2.2.2.2.2.2.2.2.2.2.2.2.2.2.2.2.2.2.2.2.2.2.1
  let x50 : Int := a1.2.2.2.2.2.2.2.2.2.2.2.2.2.2.2.2.2.2.2.2.2.2.2.2.2.1
  let x51 : List Int := [x44, x45, x46, x47, x48, x49, x50]
  let x52 : Int := a0.2.2.2.2.2.2.2.2.2.2.2.2.2.2.2.2.1
  let x53 : Int := a1.2.2.2.2.2.2.2.2.2.2.2.2.2.2.2.2.1
  let x54 : Bool := a0.2.2.2.2.2.2.2.2.2.2.2.2.2.2.2.2.2.2.1
  let x55 : Bool := a1.2.2.2.2.2.2.2.2.2.2.2.2.2.2.2.2.2.2.1
  ((F_slices_EqualLLJint_intJ (List.take (List.length a0.1) a0.1) (List.take (List.length a1.1) a1.1))).bind fun r56 =>
  bif r56 then
    (some ((((List.getD x4 (0:Nat) (0:Int)) == (List.getD x9 (0:Nat) (0:Int))) && (((List.getD x4 (1:Nat) (0:Int)) == (List.getD x9 (1:Nat) (0:Int))) && (((List.getD x4 (2:Nat) (0:Int)) == (List.getD x9 (2:Nat) (0:Int))) && (((List.getD x4 (3:Nat) (0:Int)) == (List.getD x9 (3:Nat) (0:Int))) && (((List.getD x4 (4:Nat) (0:Int)) == (List.getD x9 (4:Nat) (0:Int))) && true))))) && ((((List.getD x17 (0:Nat) (0:Int)) == (List.getD x25 (0:Nat) (0:Int))) && (((List.getD x17 (1:Nat) (0:Int)) == (List.getD x25 (1:Nat) (0:Int))) && (((List.getD x17 (2:Nat) (0:Int)) == (List.getD x25 (2:Nat) (0:Int))) && (((List.getD x17 (3:Nat) (0:Int)) == (List.getD x25 (3:Nat) (0:Int))) && (((List.getD x17 (4:Nat) (0:Int)) == (List.getD x25 (4:Nat) (0:Int))) && (((List.getD x17 (5:Nat) (0:Int)) == (List.getD x25 (5:Nat) (0:Int))) && (((List.getD x17 (6:Nat) (0:Int)) == (List.getD x25 (6:Nat) (0:Int))) && true))))))) && ((((List.getD x30 (0:Nat) (0:Int)) == (List.getD x35 (0:Nat) (0:Int))) && (((List.getD x30 (1:Nat) (0:Int)) == (List.getD x35 (1:Nat) (0:Int))) && (((List.getD x30 (2:Nat) (0:Int)) == (List.getD x35 (2:Nat) (0:Int))) && (((List.getD x30 (3:Nat) (0:Int)) == (List.getD x35 (3:Nat) (0:Int))) && true)))) && ((((List.getD x43 (0:Nat) (0:Int)) == (List.getD x51 (0:Nat) (0:Int))) && (((List.getD x43 (1:Nat) (0:Int)) == (List.getD x51 (1:Nat) (0:Int))) && (((List.getD x43 (2:Nat) (0:Int)) == (List.getD x51 (2:Nat) (0:Int))) && (((List.getD x43 (3:Nat) (0:Int)) == (List.getD x51 (3:Nat) (0:Int))) && (((List.getD x43 (4:Nat) (0:Int)) == (List.getD x51 (4:Nat) (0:Int))) && (((List.getD x43 (5:Nat) (0:Int)) == (List.getD x51 (5:Nat) (0:Int))) && (((List.getD x43 (6:Nat) (0:Int)) == (List.getD x51 (6:Nat) (0:Int))) && true))))))) && ((x52 == x53) && ((x54 == x55) && true)))))))
  else
    (some false)
noncomputable def G_config_Same : T fa_config_Same → TH ha_config_Same → Option (Bool) := fun x y => F_config_Same x.1 x.2.1
noncomputable def c_config_Same : Orc := ent i_config_Same [] 0 (sp fa_config_Same ha_config_Same fr_config_Same hr_config_Same G_config_Same out_config_Same)
theorem ok_config_Same : OrcOk PR c_config_Same := fnT okO_config_Same mixed p_config_Same (by kernel_rfl) (by kernel_rfl) (L := L_config_Same) (kp := false) (by kernel_rfl) (inn := inn_config_Same) (out := out_config_Same) (fun _ _ => rfl) (loopsL (l := []) (by kernel_rfl) trivial) (fun x y => by kernel_rfl)
end Go.Proofs.Ytcpicekmnkjceaa.VI

namespace Go.Proofs.Ytcpicekmnkjceaa.VI
set_option linter.unusedVariables false
set_option linter.unusedSimpArgs false
set_option linter.unusedSimpArgs false
set_option linter.unusedVariables false
set_option maxRecDepth 100000
set_option maxHeartbeats 4000000
theorem ints_ext {a b : List Int} (hl : a.length = b.length) (h : ∀ j, j < a.length → a.getD j 0 = b.getD j 0) : a = b := by
  apply List.ext_getElem hl
  intro i h1 h2
  have := h i h1
  rwa [List.getD_eq_getElem?_getD, List.getD_eq_getElem?_getD, List.getElem?_eq_getElem h1, List.getElem?_eq_getElem h2] at this
theorem hints_eq {a b : List Int} (hL : a.length ≤ 1073741824) : F_annealhelp_Ints a b = some (decide (a = b)) := by
  unfold F_annealhelp_Ints
  rw [bif_ne]
  by_cases hl : a.length = b.length
  case neg => rw [if_neg (by omega)]; exact some_f fun k => hl (by rw [k])
  rw [if_pos (by omega)]
  simp only [List.take_length]
  have step : ∀ i, i < a.length → a.getD i 0 = b.getD i 0 → ∀ (R : Type) (kn ko), st_annealhelp_Ints_0 R ((a, (b, ((i : Int), ()))), ()) kn ko = kn ((a, (b, (((i + 1 : Nat) : Int), ()))), ()) := fun i hi he R kn ko => by
    have w1 : IntKind.i64.wrap ((i : Int) + 1) = ((i + 1 : Nat) : Int) := by rw [wi64 (by omega)]; omega
    have hi' : i < b.length := by omega
    simp only [st_annealhelp_Ints_0, ltI hi, ltI hi', natnn, and_self, decide_true, cond_true, List.take_length, Int.toNat_natCast, w1, he, bne_self_eq_false, cond_false]
  rcases least_bad (P := fun j => a.getD j 0 = b.getD j 0) a.length with h | ⟨k, h1, h2, h3⟩
  · have := lim_seq (st := st_annealhelp_Ints_0) (fun i => ((a, (b, ((i : Int), ()))), ())) (b := Sum.inl ((), ())) a.length (fun i hi R kn ko => step i hi (h i hi) R kn ko) (fun R kn ko => by
      simp only [st_annealhelp_Ints_0, ltI', decide_false, cond_false])
    simp only [Int.natCast_zero] at this
    rw [this]
    exact some_t (ints_ext hl h)
  · have := lim_seq (st := st_annealhelp_Ints_0) (fun i => ((a, (b, ((i : Int), ()))), ())) (b := Sum.inr ((false, ()), ())) k (fun i hi R kn ko => step i (by omega) (h3 i hi) R kn ko) (fun R kn ko => by
      have hi' : k < b.length := by omega
      have hn : (a.getD k 0 != b.getD k 0) = true := by simpa using h2
      simp only [st_annealhelp_Ints_0, ltI h1, ltI hi', natnn, and_self, decide_true, cond_true, Int.toNat_natCast, hn])
    simp only [Int.natCast_zero] at this
    rw [this]
    exact some_f fun k => h2 (by rw [k])
theorem equal_eq {a b : List Int} (hL : a.length ≤ 1073741824) : F_slices_EqualLLJint_intJ a b = some (decide (a = b)) := by
  unfold F_slices_EqualLLJint_intJ
  rw [bif_ne]
  by_cases hl : a.length = b.length
  case neg => rw [if_neg (by omega)]; exact some_f fun k => hl (by rw [k])
  rw [if_pos (by omega)]
  simp only [List.take_length]
  have step : ∀ i, i < a.length → a.getD i 0 = b.getD i 0 → ∀ (R : Type) (kn ko), st_slices_EqualLLJint_intJ_0 R ((a, (b, ((a.length : Int), ((i : Int), ())))), ()) kn ko = kn ((a, (b, ((a.length : Int), (((i + 1 : Nat) : Int), ())))), ()) := fun i hi he R kn ko => by
    have w1 : IntKind.i64.wrap ((i : Int) + 1) = ((i + 1 : Nat) : Int) := by rw [wi64 (by omega)]; omega
    have hi' : i < b.length := by omega
    simp only [st_slices_EqualLLJint_intJ_0, ltI hi, ltI hi', natnn, and_self, decide_true, cond_true, List.take_length, Int.toNat_natCast, w1, he, bne_self_eq_false, cond_false]
  rcases least_bad (P := fun j => a.getD j 0 = b.getD j 0) a.length with h | ⟨k, h1, h2, h3⟩
  · have := lim_seq (st := st_slices_EqualLLJint_intJ_0) (fun i => ((a, (b, ((a.length : Int), ((i : Int), ())))), ())) (b := Sum.inl ((), ())) a.length (fun i hi R kn ko => step i hi (h i hi) R kn ko) (fun R kn ko => by
      simp only [st_slices_EqualLLJint_intJ_0, ltI', decide_false, cond_false])
    simp only [Int.natCast_zero] at this
    rw [this]
    exact some_t (ints_ext hl h)
  · have := lim_seq (st := st_slices_EqualLLJint_intJ_0) (fun i => ((a, (b, ((a.length : Int), ((i : Int), ())))), ())) (b := Sum.inr ((false, ()), ())) k (fun i hi R kn ko => step i (by omega) (h3 i hi) R kn ko) (fun R kn ko => by
      have hi' : k < b.length := by omega
      have hn : (a.getD k 0 != b.getD k 0) = true := by simpa using h2
      simp only [st_slices_EqualLLJint_intJ_0, ltI h1, ltI hi', natnn, and_self, decide_true, cond_true, Int.toNat_natCast, hn])
    simp only [Int.natCast_zero] at this
    rw [this]
    exact some_f fun k => h2 (by rw [k])
theorem bif_band {a b : Bool} : (bif a then some b else some false) = some (a && b) := by cases a <;> rfl
noncomputable instance (c d : CfgT) : Decidable (c = d) := Classical.propDecidable _
theorem hcfg_eq (c d : CfgT) (hL : c.w.length ≤ 1073741824) : F_annealhelp_Config c d = some (decide (c = d)) := by
  unfold F_annealhelp_Config
  simp only [List.take_length, hints_eq hL, Option.bind_some, bif_band]
  obtain ⟨w, f, act, loss, opt, sched, rate, mu, beta, eps, decay, clip, warm, total, batch, accum, seed, drop, chance, log, mi, ma, bk, gr, itv, save, _⟩ := c
  obtain ⟨w', f', act', loss', opt', sched', rate', mu', beta', eps', decay', clip', warm', total', batch', accum', seed', drop', chance', log', mi', ma', bk', gr', itv', save', _⟩ := d
  refine congrArg some ?_
  rw [Bool.eq_iff_iff]
  simp only [CfgT.w, Bool.and_eq_true, decide_eq_true_eq, beq_iff_eq, Prod.mk.injEq, and_true]
theorem same_eq (c d : CfgT) (hL : c.w.length ≤ 1073741824) : F_config_Same c d = some (decide (c = d)) := by
  unfold F_config_Same
  simp only [List.take_length, equal_eq hL, Option.bind_some, bif_band]
  obtain ⟨w, f, act, loss, opt, sched, rate, mu, beta, eps, decay, clip, warm, total, batch, accum, seed, drop, chance, log, mi, ma, bk, gr, itv, save, _⟩ := c
  obtain ⟨w', f', act', loss', opt', sched', rate', mu', beta', eps', decay', clip', warm', total', batch', accum', seed', drop', chance', log', mi', ma', bk', gr', itv', save', _⟩ := d
  refine congrArg some ?_
  rw [Bool.eq_iff_iff]
  simp only [CfgT.w, Bool.and_eq_true, decide_eq_true_eq, beq_iff_eq, Prod.mk.injEq, and_true, List.getD_cons_zero, List.getD_cons_succ]
  exact ⟨fun ⟨h_w, ⟨h_f, h_act, h_loss, h_opt, h_sched⟩, ⟨h_rate, h_mu, h_beta, h_eps, h_decay, h_clip, h_drop⟩, ⟨h_warm, h_total, h_batch, h_accum⟩, ⟨h_log, h_mi, h_ma, h_bk, h_gr, h_itv, h_save⟩, h_seed, h_chance⟩ => ⟨h_w, h_f, h_act, h_loss, h_opt, h_sched, h_rate, h_mu, h_beta, h_eps, h_decay, h_clip, h_warm, h_total, h_batch, h_accum, h_seed, h_drop, h_chance, h_log, h_mi, h_ma, h_bk, h_gr, h_itv, h_save⟩, fun ⟨h_w, h_f, h_act, h_loss, h_opt, h_sched, h_rate, h_mu, h_beta, h_eps, h_decay, h_clip, h_warm, h_total, h_batch, h_accum, h_seed, h_drop, h_chance, h_log, h_mi, h_ma, h_bk, h_gr, h_itv, h_save⟩ => ⟨h_w, ⟨h_f, h_act, h_loss, h_opt, h_sched⟩, ⟨h_rate, h_mu, h_beta, h_eps, h_decay, h_clip, h_drop⟩, ⟨h_warm, h_total, h_batch, h_accum⟩, ⟨h_log, h_mi, h_ma, h_bk, h_gr, h_itv, h_save⟩, h_seed, h_chance⟩⟩
end Go.Proofs.Ytcpicekmnkjceaa.VI

namespace Go.Proofs.Ytcpicekmnkjceaa.VI
set_option linter.unusedVariables false
set_option linter.unusedSimpArgs false
set_option maxRecDepth 100000
set_option linter.unusedSimpArgs false
set_option linter.unusedVariables false
noncomputable def O_annealseat_Config : Orc := orn
theorem okO_annealseat_Config : OrcOk PR O_annealseat_Config := (orn_ok _)
abbrev fa_annealseat_Config : Fm := (.pair (.i .u8) (.pair (.i .u8) (.pair (.i .u8) (.pair (.i .u8) (.pair (.i .u64) .unit)))))
abbrev ha_annealseat_Config : List BF := []
abbrev fr_annealseat_Config : Fm := (.agg (.pair (.si .i64) (.pair (.i .i64) (.pair (.i .i64) (.pair (.i .i64) (.pair (.i .i64) (.pair (.i .i64) (.pair (.i .u32) (.pair (.i .u32) (.pair (.i .u32) (.pair (.i .u32) (.pair (.i .u32) (.pair (.i .u32) (.pair (.i .i64) (.pair (.i .i64) (.pair (.i .i64) (.pair (.i .i64) (.pair (.i .u64) (.pair (.i .u32) (.pair .b (.pair (.i .i64) (.pair (.i .i64) (.pair (.i .i64) (.pair (.i .i64) (.pair (.i .i64) (.pair (.i .i64) (.pair (.i .i64) .unit)))))))))))))))))))))))))))
abbrev hr_annealseat_Config : List BF := []
noncomputable def L_annealseat_Config : Lps := L0
def inn_annealseat_Config : T fr_annealseat_Config → TH hr_annealseat_Config → List Int × Int × Int × Int × Int × Int × Int × Int × Int × Int × Int × Int × Int × Int × Int × Int × Int × Int × Bool × Int × Int × Int × Int × Int × Int × Int × Unit := (fun z w => z)
def out_annealseat_Config : List Int × Int × Int × Int × Int × Int × Int × Int × Int × Int × Int × Int × Int × Int × Int × Int × Int × Int × Bool × Int × Int × Int × Int × Int × Int × Int × Unit → T fr_annealseat_Config × TH hr_annealseat_Config := fun r => (r, ())
noncomputable def F_annealseat_Config (a0 : Int) (a1 : Int) (a2 : Int) (a3 : Int) (a4 : Int) : Option (List Int × Int × Int × Int × Int × Int × Int × Int × Int × Int × Int × Int × Int × Int × Int × Int × Int × Int × Bool × Int × Int × Int × Int × Int × Int × Int × Unit) :=
  let x0 : Nat := ((0:Nat) + ((Int.toNat (Int.tmod a0 (6:Int))) * (1:Nat)))
  let x1 : Int := (Int.tmod (IntKind.wrap .i64 a1) (3:Int))
  let x2 : Int := (IntKind.wrap .i64 (x1 + (Int.tmod (IntKind.wrap .i64 a0) (25:Int))))
  let x3 : Int := (IntKind.wrap .i64 ((IntKind.wrap .i64 (x2 - x1)) + (1:Int)))
  let x4 : Bool := (x3 == (0:Int))
  let x5 : Nat := ((0:Nat) + ((Int.toNat (Int.tmod a2 (4:Int))) * (1:Nat)))
  let x6 : Int := (Int.tmod (IntKind.wrap .i64 (IntKind.wrap .u8 (Int.tdiv a3 (3:Int)))) (4:Int))
  let x7 : List Int := [(2:Int), (2:Int)]
  bif (decide (((0:Int) ≤ (Int.tmod a0 (6:Int))) ∧ ((Int.tmod a0 (6:Int)) < (6:Int)))) then
    bif (Nat.beq x0 (0:Nat)) then
      bif (decide (((0:Int) ≤ (Int.tmod a2 (4:Int))) ∧ ((Int.tmod a2 (4:Int)) < (4:Int)))) then
        bif (decide (x5 < (4:Nat))) then
          bif (decide (((0:Int) ≤ (Int.tmod (IntKind.wrap .u8 (Int.tdiv a2 (4:Int))) (3:Int))) ∧ ((Int.tmod (IntKind.wrap .u8 (Int.tdiv a2 (4:Int))) (3:Int)) < (3:Int)))) then
            bif (decide (((0:Nat) + ((Int.toNat (Int.tmod (IntKind.wrap .u8 (Int.tdiv a2 (4:Int))) (3:Int))) * (1:Nat))) < (3:Nat))) then
              bif (decide (((0:Int) ≤ (Int.tmod (IntKind.wrap .u8 (Int.tdiv a2 (12:Int))) (2:Int))) ∧ ((Int.tmod (IntKind.wrap .u8 (Int.tdiv a2 (12:Int))) (2:Int)) < (2:Int)))) then
                bif (decide (((0:Nat) + ((Int.toNat (Int.tmod (IntKind.wrap .u8 (Int.tdiv a2 (12:Int))) (2:Int))) * (1:Nat))) < (2:Nat))) then
                  bif (decide (((0:Int) ≤ (Int.tmod (IntKind.wrap .u8 (Int.tdiv a2 (24:Int))) (2:Int))) ∧ ((Int.tmod (IntKind.wrap .u8 (Int.tdiv a2 (24:Int))) (2:Int)) < (2:Int)))) then
                    bif (decide (((0:Nat) + ((Int.toNat (Int.tmod (IntKind.wrap .u8 (Int.tdiv a2 (24:Int))) (2:Int))) * (1:Nat))) < (2:Nat))) then
                      bif (decide (((0:Int) ≤ (Int.tmod (IntKind.wrap .u8 (Int.tdiv a2 (48:Int))) (2:Int))) ∧ ((Int.tmod (IntKind.wrap .u8 (Int.tdiv a2 (48:Int))) (2:Int)) < (2:Int)))) then
                        bif (decide (((0:Nat) + ((Int.toNat (Int.tmod (IntKind.wrap .u8 (Int.tdiv a2 (48:Int))) (2:Int))) * (1:Nat))) < (2:Nat))) then
                          bif (decide (((0:Int) ≤ (Int.tmod a3 (3:Int))) ∧ ((Int.tmod a3 (3:Int)) < (3:Int)))) then
                            bif (decide (((0:Nat) + ((Int.toNat (Int.tmod a3 (3:Int))) * (1:Nat))) < (3:Nat))) then
                              bif (decide (((0:Int) ≤ (Int.tmod a2 (4:Int))) ∧ ((Int.tmod a2 (4:Int)) < (4:Int)))) then
                                bif (decide (x5 < (4:Nat))) then
                                  bif x4 then
                                    none
                                  else
                                    (some ([(2:Int), (3:Int)], ((Int.tmod (IntKind.wrap .i64 (IntKind.wrap .u8 (Int.tdiv a0 (6:Int)))) (3:Int)), ((Int.tmod (IntKind.wrap .i64 a1) (4:Int)), ((Int.tmod (IntKind.wrap .i64 (IntKind.wrap .u8 (Int.tdiv a1 (4:Int)))) (2:Int)), ((Int.tmod (IntKind.wrap .i64 (IntKind.wrap .u8 (Int.tdiv a1 (8:Int)))) (4:Int)), ((Int.tmod (IntKind.wrap .i64 (IntKind.wrap .u8 (Int.tdiv a1 (32:Int)))) (3:Int)), ((List.getD [(1008981770:Int), (1036831949:Int), (1065353216:Int), (981668463:Int)] x5 (0:Int)), ((List.getD [(0:Int), (1063675494:Int), (1056964608:Int)] ((0:Nat) + ((Int.toNat (Int.tmod (IntKind.wrap .u8 (Int.tdiv a2 (4:Int))) (3:Int))) * (1:Nat))) (0:Int)), ((List.getD [(1065336439:Int), (1063675494:Int)] ((0:Nat) + ((Int.toNat (Int.tmod (IntKind.wrap .u8 (Int.tdiv a2 (12:Int))) (2:Int))) * (1:Nat))) (0:Int)), ((List.getD [(841731191:Int), (981668463:Int)] ((0:Nat) + ((Int.toNat (Int.tmod (IntKind.wrap .u8 (Int.tdiv a2 (24:Int))) (2:Int))) * (1:Nat))) (0:Int)), ((List.getD [(0:Int), (1008981770:Int)] ((0:Nat) + ((Int.toNat (Int.tmod (IntKind.wrap .u8 (Int.tdiv a2 (48:Int))) (2:Int))) * (1:Nat))) (0:Int)), ((List.getD [(0:Int), (1065353216:Int), (1036831949:Int)] ((0:Nat) + ((Int.toNat (Int.tmod a3 (3:Int))) * (1:Nat))) (0:Int)), (x6, ((IntKind.wrap .i64 ((IntKind.wrap .i64 (x6 + (Int.tmod (IntKind.wrap .i64 a3) (17:Int)))) + (1:Int))), ((IntKind.wrap .i64 ((Int.tmod (IntKind.wrap .i64 (IntKind.wrap .u8 (Int.tdiv a3 (9:Int)))) (4:Int)) + (1:Int))), ((IntKind.wrap .i64 ((Int.tmod (IntKind.wrap .i64 (IntKind.wrap .u8 (Int.tdiv a3 (36:Int)))) (2:Int)) + (1:Int))), (a4, ((List.getD [(0:Int), (536870912:Int), (2147483647:Int), (0:Int)] x5 (0:Int)), (((Int.tmod a3 (5:Int)) == (0:Int)), ((IntKind.wrap .i64 (x1 + (Int.tmod (IntKind.wrap .i64 a2) x3))), (x1, (x2, ((IntKind.wrap .i64 (x1 + (1:Int))), ((IntKind.wrap .i64 ((Int.tmod (IntKind.wrap .i64 a2) (2:Int)) + (1:Int))), ((IntKind.wrap .i64 ((Int.tmod (IntKind.wrap .i64 a3) (3:Int)) + (1:Int))), ((Int.tmod (IntKind.wrap .i64 a0) (4:Int)), ())))))))))))))))))))))))))))
                                else
                                  none
                              else
                                none
                            else
                              none
                          else
                            none
                        else
                          none
                      else
                        none
                    else
                      none
                  else
                    none
                else
                  none
              else
                none
            else
              none
          else
            none
        else
          none
      else
        none
    else
      bif (Nat.beq x0 (1:Nat)) then
        bif (decide (((0:Int) ≤ (Int.tmod a2 (4:Int))) ∧ ((Int.tmod a2 (4:Int)) < (4:Int)))) then
          bif (decide (x5 < (4:Nat))) then
            bif (decide (((0:Int) ≤ (Int.tmod (IntKind.wrap .u8 (Int.tdiv a2 (4:Int))) (3:Int))) ∧ ((Int.tmod (IntKind.wrap .u8 (Int.tdiv a2 (4:Int))) (3:Int)) < (3:Int)))) then
              bif (decide (((0:Nat) + ((Int.toNat (Int.tmod (IntKind.wrap .u8 (Int.tdiv a2 (4:Int))) (3:Int))) * (1:Nat))) < (3:Nat))) then
                bif (decide (((0:Int) ≤ (Int.tmod (IntKind.wrap .u8 (Int.tdiv a2 (12:Int))) (2:Int))) ∧ ((Int.tmod (IntKind.wrap .u8 (Int.tdiv a2 (12:Int))) (2:Int)) < (2:Int)))) then
                  bif (decide (((0:Nat) + ((Int.toNat (Int.tmod (IntKind.wrap .u8 (Int.tdiv a2 (12:Int))) (2:Int))) * (1:Nat))) < (2:Nat))) then
                    bif (decide (((0:Int) ≤ (Int.tmod (IntKind.wrap .u8 (Int.tdiv a2 (24:Int))) (2:Int))) ∧ ((Int.tmod (IntKind.wrap .u8 (Int.tdiv a2 (24:Int))) (2:Int)) < (2:Int)))) then
                      bif (decide (((0:Nat) + ((Int.toNat (Int.tmod (IntKind.wrap .u8 (Int.tdiv a2 (24:Int))) (2:Int))) * (1:Nat))) < (2:Nat))) then
                        bif (decide (((0:Int) ≤ (Int.tmod (IntKind.wrap .u8 (Int.tdiv a2 (48:Int))) (2:Int))) ∧ ((Int.tmod (IntKind.wrap .u8 (Int.tdiv a2 (48:Int))) (2:Int)) < (2:Int)))) then
                          bif (decide (((0:Nat) + ((Int.toNat (Int.tmod (IntKind.wrap .u8 (Int.tdiv a2 (48:Int))) (2:Int))) * (1:Nat))) < (2:Nat))) then
                            bif (decide (((0:Int) ≤ (Int.tmod a3 (3:Int))) ∧ ((Int.tmod a3 (3:Int)) < (3:Int)))) then
                              bif (decide (((0:Nat) + ((Int.toNat (Int.tmod a3 (3:Int))) * (1:Nat))) < (3:Nat))) then
                                bif (decide (((0:Int) ≤ (Int.tmod a2 (4:Int))) ∧ ((Int.tmod a2 (4:Int)) < (4:Int)))) then
                                  bif (decide (x5 < (4:Nat))) then
                                    bif x4 then
                                      none
                                    else
                                      (some ([(3:Int), (2:Int), (2:Int)], ((Int.tmod (IntKind.wrap .i64 (IntKind.wrap .u8 (Int.tdiv a0 (6:Int)))) (3:Int)), ((Int.tmod (IntKind.wrap .i64 a1) (4:Int)), ((Int.tmod (IntKind.wrap .i64 (IntKind.wrap .u8 (Int.tdiv a1 (4:Int)))) (2:Int)), ((Int.tmod (IntKind.wrap .i64 (IntKind.wrap .u8 (Int.tdiv a1 (8:Int)))) (4:Int)), ((Int.tmod (IntKind.wrap .i64 (IntKind.wrap .u8 (Int.tdiv a1 (32:Int)))) (3:Int)), ((List.getD [(1008981770:Int), (1036831949:Int), (1065353216:Int), (981668463:Int)] x5 (0:Int)), ((List.getD [(0:Int), (1063675494:Int), (1056964608:Int)] ((0:Nat) + ((Int.toNat (Int.tmod (IntKind.wrap .u8 (Int.tdiv a2 (4:Int))) (3:Int))) * (1:Nat))) (0:Int)), ((List.getD [(1065336439:Int), (1063675494:Int)] ((0:Nat) + ((Int.toNat (Int.tmod (IntKind.wrap .u8 (Int.tdiv a2 (12:Int))) (2:Int))) * (1:Nat))) (0:Int)), ((List.getD [(841731191:Int), (981668463:Int)] ((0:Nat) + ((Int.toNat (Int.tmod (IntKind.wrap .u8 (Int.tdiv a2 (24:Int))) (2:Int))) * (1:Nat))) (0:Int)), ((List.getD [(0:Int), (1008981770:Int)] ((0:Nat) + ((Int.toNat (Int.tmod (IntKind.wrap .u8 (Int.tdiv a2 (48:Int))) (2:Int))) * (1:Nat))) (0:Int)), ((List.getD [(0:Int), (1065353216:Int), (1036831949:Int)] ((0:Nat) + ((Int.toNat (Int.tmod a3 (3:Int))) * (1:Nat))) (0:Int)), (x6, ((IntKind.wrap .i64 ((IntKind.wrap .i64 (x6 + (Int.tmod (IntKind.wrap .i64 a3) (17:Int)))) + (1:Int))), ((IntKind.wrap .i64 ((Int.tmod (IntKind.wrap .i64 (IntKind.wrap .u8 (Int.tdiv a3 (9:Int)))) (4:Int)) + (1:Int))), ((IntKind.wrap .i64 ((Int.tmod (IntKind.wrap .i64 (IntKind.wrap .u8 (Int.tdiv a3 (36:Int)))) (2:Int)) + (1:Int))), (a4, ((List.getD [(0:Int), (536870912:Int), (2147483647:Int), (0:Int)] x5 (0:Int)), (((Int.tmod a3 (5:Int)) == (0:Int)), ((IntKind.wrap .i64 (x1 + (Int.tmod (IntKind.wrap .i64 a2) x3))), (x1, (x2, ((IntKind.wrap .i64 (x1 + (1:Int))), ((IntKind.wrap .i64 ((Int.tmod (IntKind.wrap .i64 a2) (2:Int)) + (1:Int))), ((IntKind.wrap .i64 ((Int.tmod (IntKind.wrap .i64 a3) (3:Int)) + (1:Int))), ((Int.tmod (IntKind.wrap .i64 a0) (4:Int)), ())))))))))))))))))))))))))))
                                  else
                                    none
                                else
                                  none
                              else
                                none
                            else
                              none
                          else
                            none
                        else
                          none
                      else
                        none
                    else
                      none
                  else
                    none
                else
                  none
              else
                none
            else
              none
          else
            none
        else
          none
      else
        bif (Nat.beq x0 (2:Nat)) then
          bif (decide (((0:Int) ≤ (Int.tmod a2 (4:Int))) ∧ ((Int.tmod a2 (4:Int)) < (4:Int)))) then
            bif (decide (x5 < (4:Nat))) then
              bif (decide (((0:Int) ≤ (Int.tmod (IntKind.wrap .u8 (Int.tdiv a2 (4:Int))) (3:Int))) ∧ ((Int.tmod (IntKind.wrap .u8 (Int.tdiv a2 (4:Int))) (3:Int)) < (3:Int)))) then
                bif (decide (((0:Nat) + ((Int.toNat (Int.tmod (IntKind.wrap .u8 (Int.tdiv a2 (4:Int))) (3:Int))) * (1:Nat))) < (3:Nat))) then
                  bif (decide (((0:Int) ≤ (Int.tmod (IntKind.wrap .u8 (Int.tdiv a2 (12:Int))) (2:Int))) ∧ ((Int.tmod (IntKind.wrap .u8 (Int.tdiv a2 (12:Int))) (2:Int)) < (2:Int)))) then
                    bif (decide (((0:Nat) + ((Int.toNat (Int.tmod (IntKind.wrap .u8 (Int.tdiv a2 (12:Int))) (2:Int))) * (1:Nat))) < (2:Nat))) then
                      bif (decide (((0:Int) ≤ (Int.tmod (IntKind.wrap .u8 (Int.tdiv a2 (24:Int))) (2:Int))) ∧ ((Int.tmod (IntKind.wrap .u8 (Int.tdiv a2 (24:Int))) (2:Int)) < (2:Int)))) then
                        bif (decide (((0:Nat) + ((Int.toNat (Int.tmod (IntKind.wrap .u8 (Int.tdiv a2 (24:Int))) (2:Int))) * (1:Nat))) < (2:Nat))) then
                          bif (decide (((0:Int) ≤ (Int.tmod (IntKind.wrap .u8 (Int.tdiv a2 (48:Int))) (2:Int))) ∧ ((Int.tmod (IntKind.wrap .u8 (Int.tdiv a2 (48:Int))) (2:Int)) < (2:Int)))) then
                            bif (decide (((0:Nat) + ((Int.toNat (Int.tmod (IntKind.wrap .u8 (Int.tdiv a2 (48:Int))) (2:Int))) * (1:Nat))) < (2:Nat))) then
                              bif (decide (((0:Int) ≤ (Int.tmod a3 (3:Int))) ∧ ((Int.tmod a3 (3:Int)) < (3:Int)))) then
                                bif (decide (((0:Nat) + ((Int.toNat (Int.tmod a3 (3:Int))) * (1:Nat))) < (3:Nat))) then
                                  bif (decide (((0:Int) ≤ (Int.tmod a2 (4:Int))) ∧ ((Int.tmod a2 (4:Int)) < (4:Int)))) then
                                    bif (decide (x5 < (4:Nat))) then
                                      bif x4 then
                                        none
                                      else
                                        (some ([(2:Int), (4:Int), (3:Int)], ((Int.tmod (IntKind.wrap .i64 (IntKind.wrap .u8 (Int.tdiv a0 (6:Int)))) (3:Int)), ((Int.tmod (IntKind.wrap .i64 a1) (4:Int)), ((Int.tmod (IntKind.wrap .i64 (IntKind.wrap .u8 (Int.tdiv a1 (4:Int)))) (2:Int)), ((Int.tmod (IntKind.wrap .i64 (IntKind.wrap .u8 (Int.tdiv a1 (8:Int)))) (4:Int)), ((Int.tmod (IntKind.wrap .i64 (IntKind.wrap .u8 (Int.tdiv a1 (32:Int)))) (3:Int)), ((List.getD [(1008981770:Int), (1036831949:Int), (1065353216:Int), (981668463:Int)] x5 (0:Int)), ((List.getD [(0:Int), (1063675494:Int), (1056964608:Int)] ((0:Nat) + ((Int.toNat (Int.tmod (IntKind.wrap .u8 (Int.tdiv a2 (4:Int))) (3:Int))) * (1:Nat))) (0:Int)), ((List.getD [(1065336439:Int), (1063675494:Int)] ((0:Nat) + ((Int.toNat (Int.tmod (IntKind.wrap .u8 (Int.tdiv a2 (12:Int))) (2:Int))) * (1:Nat))) (0:Int)), ((List.getD [(841731191:Int), (981668463:Int)] ((0:Nat) + ((Int.toNat (Int.tmod (IntKind.wrap .u8 (Int.tdiv a2 (24:Int))) (2:Int))) * (1:Nat))) (0:Int)), ((List.getD [(0:Int), (1008981770:Int)] ((0:Nat) + ((Int.toNat (Int.tmod (IntKind.wrap .u8 (Int.tdiv a2 (48:Int))) (2:Int))) * (1:Nat))) (0:Int)), ((List.getD [(0:Int), (1065353216:Int), (1036831949:Int)] ((0:Nat) + ((Int.toNat (Int.tmod a3 (3:Int))) * (1:Nat))) (0:Int)), (x6, ((IntKind.wrap .i64 ((IntKind.wrap .i64 (x6 + (Int.tmod (IntKind.wrap .i64 a3) (17:Int)))) + (1:Int))), ((IntKind.wrap .i64 ((Int.tmod (IntKind.wrap .i64 (IntKind.wrap .u8 (Int.tdiv a3 (9:Int)))) (4:Int)) + (1:Int))), ((IntKind.wrap .i64 ((Int.tmod (IntKind.wrap .i64 (IntKind.wrap .u8 (Int.tdiv a3 (36:Int)))) (2:Int)) + (1:Int))), (a4, ((List.getD [(0:Int), (536870912:Int), (2147483647:Int), (0:Int)] x5 (0:Int)), (((Int.tmod a3 (5:Int)) == (0:Int)), ((IntKind.wrap .i64 (x1 + (Int.tmod (IntKind.wrap .i64 a2) x3))), (x1, (x2, ((IntKind.wrap .i64 (x1 + (1:Int))), ((IntKind.wrap .i64 ((Int.tmod (IntKind.wrap .i64 a2) (2:Int)) + (1:Int))), ((IntKind.wrap .i64 ((Int.tmod (IntKind.wrap .i64 a3) (3:Int)) + (1:Int))), ((Int.tmod (IntKind.wrap .i64 a0) (4:Int)), ())))))))))))))))))))))))))))
                                    else
                                      none
                                  else
                                    none
                                else
                                  none
                              else
                                none
                            else
                              none
                          else
                            none
                        else
                          none
                      else
                        none
                    else
                      none
                  else
                    none
                else
                  none
              else
                none
            else
              none
          else
            none
        else
          bif (Nat.beq x0 (3:Nat)) then
            bif (decide (((0:Int) ≤ (Int.tmod a2 (4:Int))) ∧ ((Int.tmod a2 (4:Int)) < (4:Int)))) then
              bif (decide (x5 < (4:Nat))) then
                bif (decide (((0:Int) ≤ (Int.tmod (IntKind.wrap .u8 (Int.tdiv a2 (4:Int))) (3:Int))) ∧ ((Int.tmod (IntKind.wrap .u8 (Int.tdiv a2 (4:Int))) (3:Int)) < (3:Int)))) then
                  bif (decide (((0:Nat) + ((Int.toNat (Int.tmod (IntKind.wrap .u8 (Int.tdiv a2 (4:Int))) (3:Int))) * (1:Nat))) < (3:Nat))) then
                    bif (decide (((0:Int) ≤ (Int.tmod (IntKind.wrap .u8 (Int.tdiv a2 (12:Int))) (2:Int))) ∧ ((Int.tmod (IntKind.wrap .u8 (Int.tdiv a2 (12:Int))) (2:Int)) < (2:Int)))) then
                      bif (decide (((0:Nat) + ((Int.toNat (Int.tmod (IntKind.wrap .u8 (Int.tdiv a2 (12:Int))) (2:Int))) * (1:Nat))) < (2:Nat))) then
                        bif (decide (((0:Int) ≤ (Int.tmod (IntKind.wrap .u8 (Int.tdiv a2 (24:Int))) (2:Int))) ∧ ((Int.tmod (IntKind.wrap .u8 (Int.tdiv a2 (24:Int))) (2:Int)) < (2:Int)))) then
                          bif (decide (((0:Nat) + ((Int.toNat (Int.tmod (IntKind.wrap .u8 (Int.tdiv a2 (24:Int))) (2:Int))) * (1:Nat))) < (2:Nat))) then
                            bif (decide (((0:Int) ≤ (Int.tmod (IntKind.wrap .u8 (Int.tdiv a2 (48:Int))) (2:Int))) ∧ ((Int.tmod (IntKind.wrap .u8 (Int.tdiv a2 (48:Int))) (2:Int)) < (2:Int)))) then
                              bif (decide (((0:Nat) + ((Int.toNat (Int.tmod (IntKind.wrap .u8 (Int.tdiv a2 (48:Int))) (2:Int))) * (1:Nat))) < (2:Nat))) then
                                bif (decide (((0:Int) ≤ (Int.tmod a3 (3:Int))) ∧ ((Int.tmod a3 (3:Int)) < (3:Int)))) then
                                  bif (decide (((0:Nat) + ((Int.toNat (Int.tmod a3 (3:Int))) * (1:Nat))) < (3:Nat))) then
                                    bif (decide (((0:Int) ≤ (Int.tmod a2 (4:Int))) ∧ ((Int.tmod a2 (4:Int)) < (4:Int)))) then
                                      bif (decide (x5 < (4:Nat))) then
                                        bif x4 then
                                          none
                                        else
                                          (some ([(1:Int), (2:Int), (2:Int), (2:Int)], ((Int.tmod (IntKind.wrap .i64 (IntKind.wrap .u8 (Int.tdiv a0 (6:Int)))) (3:Int)), ((Int.tmod (IntKind.wrap .i64 a1) (4:Int)), ((Int.tmod (IntKind.wrap .i64 (IntKind.wrap .u8 (Int.tdiv a1 (4:Int)))) (2:Int)), ((Int.tmod (IntKind.wrap .i64 (IntKind.wrap .u8 (Int.tdiv a1 (8:Int)))) (4:Int)), ((Int.tmod (IntKind.wrap .i64 (IntKind.wrap .u8 (Int.tdiv a1 (32:Int)))) (3:Int)), ((List.getD [(1008981770:Int), (1036831949:Int), (1065353216:Int), (981668463:Int)] x5 (0:Int)), ((List.getD [(0:Int), (1063675494:Int), (1056964608:Int)] ((0:Nat) + ((Int.toNat (Int.tmod (IntKind.wrap .u8 (Int.tdiv a2 (4:Int))) (3:Int))) * (1:Nat))) (0:Int)), ((List.getD [(1065336439:Int), (1063675494:Int)] ((0:Nat) + ((Int.toNat (Int.tmod (IntKind.wrap .u8 (Int.tdiv a2 (12:Int))) (2:Int))) * (1:Nat))) (0:Int)), ((List.getD [(841731191:Int), (981668463:Int)] ((0:Nat) + ((Int.toNat (Int.tmod (IntKind.wrap .u8 (Int.tdiv a2 (24:Int))) (2:Int))) * (1:Nat))) (0:Int)), ((List.getD [(0:Int), (1008981770:Int)] ((0:Nat) + ((Int.toNat (Int.tmod (IntKind.wrap .u8 (Int.tdiv a2 (48:Int))) (2:Int))) * (1:Nat))) (0:Int)), ((List.getD [(0:Int), (1065353216:Int), (1036831949:Int)] ((0:Nat) + ((Int.toNat (Int.tmod a3 (3:Int))) * (1:Nat))) (0:Int)), (x6, ((IntKind.wrap .i64 ((IntKind.wrap .i64 (x6 + (Int.tmod (IntKind.wrap .i64 a3) (17:Int)))) + (1:Int))), ((IntKind.wrap .i64 ((Int.tmod (IntKind.wrap .i64 (IntKind.wrap .u8 (Int.tdiv a3 (9:Int)))) (4:Int)) + (1:Int))), ((IntKind.wrap .i64 ((Int.tmod (IntKind.wrap .i64 (IntKind.wrap .u8 (Int.tdiv a3 (36:Int)))) (2:Int)) + (1:Int))), (a4, ((List.getD [(0:Int), (536870912:Int), (2147483647:Int), (0:Int)] x5 (0:Int)), (((Int.tmod a3 (5:Int)) == (0:Int)), ((IntKind.wrap .i64 (x1 + (Int.tmod (IntKind.wrap .i64 a2) x3))), (x1, (x2, ((IntKind.wrap .i64 (x1 + (1:Int))), ((IntKind.wrap .i64 ((Int.tmod (IntKind.wrap .i64 a2) (2:Int)) + (1:Int))), ((IntKind.wrap .i64 ((Int.tmod (IntKind.wrap .i64 a3) (3:Int)) + (1:Int))), ((Int.tmod (IntKind.wrap .i64 a0) (4:Int)), ())))))))))))))))))))))))))))
                                      else
                                        none
                                    else
                                      none
                                  else
                                    none
                                else
                                  none
                              else
                                none
                            else
                              none
                          else
                            none
                        else
                          none
                      else
                        none
                    else
                      none
                  else
                    none
                else
                  none
              else
                none
            else
              none
          else
            bif (Nat.beq x0 (4:Nat)) then
              bif (decide (((0:Int) ≤ (Int.tmod a2 (4:Int))) ∧ ((Int.tmod a2 (4:Int)) < (4:Int)))) then
                bif (decide (x5 < (4:Nat))) then
                  bif (decide (((0:Int) ≤ (Int.tmod (IntKind.wrap .u8 (Int.tdiv a2 (4:Int))) (3:Int))) ∧ ((Int.tmod (IntKind.wrap .u8 (Int.tdiv a2 (4:Int))) (3:Int)) < (3:Int)))) then
                    bif (decide (((0:Nat) + ((Int.toNat (Int.tmod (IntKind.wrap .u8 (Int.tdiv a2 (4:Int))) (3:Int))) * (1:Nat))) < (3:Nat))) then
                      bif (decide (((0:Int) ≤ (Int.tmod (IntKind.wrap .u8 (Int.tdiv a2 (12:Int))) (2:Int))) ∧ ((Int.tmod (IntKind.wrap .u8 (Int.tdiv a2 (12:Int))) (2:Int)) < (2:Int)))) then
                        bif (decide (((0:Nat) + ((Int.toNat (Int.tmod (IntKind.wrap .u8 (Int.tdiv a2 (12:Int))) (2:Int))) * (1:Nat))) < (2:Nat))) then
                          bif (decide (((0:Int) ≤ (Int.tmod (IntKind.wrap .u8 (Int.tdiv a2 (24:Int))) (2:Int))) ∧ ((Int.tmod (IntKind.wrap .u8 (Int.tdiv a2 (24:Int))) (2:Int)) < (2:Int)))) then
                            bif (decide (((0:Nat) + ((Int.toNat (Int.tmod (IntKind.wrap .u8 (Int.tdiv a2 (24:Int))) (2:Int))) * (1:Nat))) < (2:Nat))) then
                              bif (decide (((0:Int) ≤ (Int.tmod (IntKind.wrap .u8 (Int.tdiv a2 (48:Int))) (2:Int))) ∧ ((Int.tmod (IntKind.wrap .u8 (Int.tdiv a2 (48:Int))) (2:Int)) < (2:Int)))) then
                                bif (decide (((0:Nat) + ((Int.toNat (Int.tmod (IntKind.wrap .u8 (Int.tdiv a2 (48:Int))) (2:Int))) * (1:Nat))) < (2:Nat))) then
                                  bif (decide (((0:Int) ≤ (Int.tmod a3 (3:Int))) ∧ ((Int.tmod a3 (3:Int)) < (3:Int)))) then
                                    bif (decide (((0:Nat) + ((Int.toNat (Int.tmod a3 (3:Int))) * (1:Nat))) < (3:Nat))) then
                                      bif (decide (((0:Int) ≤ (Int.tmod a2 (4:Int))) ∧ ((Int.tmod a2 (4:Int)) < (4:Int)))) then
                                        bif (decide (x5 < (4:Nat))) then
                                          bif x4 then
                                            none
                                          else
                                            (some (x7, ((Int.tmod (IntKind.wrap .i64 (IntKind.wrap .u8 (Int.tdiv a0 (6:Int)))) (3:Int)), ((Int.tmod (IntKind.wrap .i64 a1) (4:Int)), ((Int.tmod (IntKind.wrap .i64 (IntKind.wrap .u8 (Int.tdiv a1 (4:Int)))) (2:Int)), ((Int.tmod (IntKind.wrap .i64 (IntKind.wrap .u8 (Int.tdiv a1 (8:Int)))) (4:Int)), ((Int.tmod (IntKind.wrap .i64 (IntKind.wrap .u8 (Int.tdiv a1 (32:Int)))) (3:Int)), ((List.getD [(1008981770:Int), (1036831949:Int), (1065353216:Int), (981668463:Int)] x5 (0:Int)), ((List.getD [(0:Int), (1063675494:Int), (1056964608:Int)] ((0:Nat) + ((Int.toNat (Int.tmod (IntKind.wrap .u8 (Int.tdiv a2 (4:Int))) (3:Int))) * (1:Nat))) (0:Int)), ((List.getD [(1065336439:Int), (1063675494:Int)] ((0:Nat) + ((Int.toNat (Int.tmod (IntKind.wrap .u8 (Int.tdiv a2 (12:Int))) (2:Int))) * (1:Nat))) (0:Int)), ((List.getD [(841731191:Int), (981668463:Int)] ((0:Nat) + ((Int.toNat (Int.tmod (IntKind.wrap .u8 (Int.tdiv a2 (24:Int))) (2:Int))) * (1:Nat))) (0:Int)), ((List.getD [(0:Int), (1008981770:Int)] ((0:Nat) + ((Int.toNat (Int.tmod (IntKind.wrap .u8 (Int.tdiv a2 (48:Int))) (2:Int))) * (1:Nat))) (0:Int)), ((List.getD [(0:Int), (1065353216:Int), (1036831949:Int)] ((0:Nat) + ((Int.toNat (Int.tmod a3 (3:Int))) * (1:Nat))) (0:Int)), (x6, ((IntKind.wrap .i64 ((IntKind.wrap .i64 (x6 + (Int.tmod (IntKind.wrap .i64 a3) (17:Int)))) + (1:Int))), ((IntKind.wrap .i64 ((Int.tmod (IntKind.wrap .i64 (IntKind.wrap .u8 (Int.tdiv a3 (9:Int)))) (4:Int)) + (1:Int))), ((IntKind.wrap .i64 ((Int.tmod (IntKind.wrap .i64 (IntKind.wrap .u8 (Int.tdiv a3 (36:Int)))) (2:Int)) + (1:Int))), (a4, ((List.getD [(0:Int), (536870912:Int), (2147483647:Int), (0:Int)] x5 (0:Int)), (((Int.tmod a3 (5:Int)) == (0:Int)), ((IntKind.wrap .i64 (x1 + (Int.tmod (IntKind.wrap .i64 a2) x3))), (x1, (x2, ((IntKind.wrap .i64 (x1 + (1:Int))), ((IntKind.wrap .i64 ((Int.tmod (IntKind.wrap .i64 a2) (2:Int)) + (1:Int))), ((IntKind.wrap .i64 ((Int.tmod (IntKind.wrap .i64 a3) (3:Int)) + (1:Int))), ((Int.tmod (IntKind.wrap .i64 a0) (4:Int)), ())))))))))))))))))))))))))))
                                        else
                                          none
                                      else
                                        none
                                    else
                                      none
                                  else
                                    none
                                else
                                  none
                              else
                                none
                            else
                              none
                          else
                            none
                        else
                          none
                      else
                        none
                    else
                      none
                  else
                    none
                else
                  none
              else
                none
            else
              bif (Nat.beq x0 (5:Nat)) then
                bif (decide (((0:Int) ≤ (Int.tmod a2 (4:Int))) ∧ ((Int.tmod a2 (4:Int)) < (4:Int)))) then
                  bif (decide (x5 < (4:Nat))) then
                    bif (decide (((0:Int) ≤ (Int.tmod (IntKind.wrap .u8 (Int.tdiv a2 (4:Int))) (3:Int))) ∧ ((Int.tmod (IntKind.wrap .u8 (Int.tdiv a2 (4:Int))) (3:Int)) < (3:Int)))) then
                      bif (decide (((0:Nat) + ((Int.toNat (Int.tmod (IntKind.wrap .u8 (Int.tdiv a2 (4:Int))) (3:Int))) * (1:Nat))) < (3:Nat))) then
                        bif (decide (((0:Int) ≤ (Int.tmod (IntKind.wrap .u8 (Int.tdiv a2 (12:Int))) (2:Int))) ∧ ((Int.tmod (IntKind.wrap .u8 (Int.tdiv a2 (12:Int))) (2:Int)) < (2:Int)))) then
                          bif (decide (((0:Nat) + ((Int.toNat (Int.tmod (IntKind.wrap .u8 (Int.tdiv a2 (12:Int))) (2:Int))) * (1:Nat))) < (2:Nat))) then
                            bif (decide (((0:Int) ≤ (Int.tmod (IntKind.wrap .u8 (Int.tdiv a2 (24:Int))) (2:Int))) ∧ ((Int.tmod (IntKind.wrap .u8 (Int.tdiv a2 (24:Int))) (2:Int)) < (2:Int)))) then
                              bif (decide (((0:Nat) + ((Int.toNat (Int.tmod (IntKind.wrap .u8 (Int.tdiv a2 (24:Int))) (2:Int))) * (1:Nat))) < (2:Nat))) then
                                bif (decide (((0:Int) ≤ (Int.tmod (IntKind.wrap .u8 (Int.tdiv a2 (48:Int))) (2:Int))) ∧ ((Int.tmod (IntKind.wrap .u8 (Int.tdiv a2 (48:Int))) (2:Int)) < (2:Int)))) then
                                  bif (decide (((0:Nat) + ((Int.toNat (Int.tmod (IntKind.wrap .u8 (Int.tdiv a2 (48:Int))) (2:Int))) * (1:Nat))) < (2:Nat))) then
                                    bif (decide (((0:Int) ≤ (Int.tmod a3 (3:Int))) ∧ ((Int.tmod a3 (3:Int)) < (3:Int)))) then
                                      bif (decide (((0:Nat) + ((Int.toNat (Int.tmod a3 (3:Int))) * (1:Nat))) < (3:Nat))) then
                                        bif (decide (((0:Int) ≤ (Int.tmod a2 (4:Int))) ∧ ((Int.tmod a2 (4:Int)) < (4:Int)))) then
                                          bif (decide (x5 < (4:Nat))) then
                                            bif x4 then
                                              none
                                            else
                                              (some ([(4:Int), (3:Int), (2:Int)], ((Int.tmod (IntKind.wrap .i64 (IntKind.wrap .u8 (Int.tdiv a0 (6:Int)))) (3:Int)), ((Int.tmod (IntKind.wrap .i64 a1) (4:Int)), ((Int.tmod (IntKind.wrap .i64 (IntKind.wrap .u8 (Int.tdiv a1 (4:Int)))) (2:Int)), ((Int.tmod (IntKind.wrap .i64 (IntKind.wrap .u8 (Int.tdiv a1 (8:Int)))) (4:Int)), ((Int.tmod (IntKind.wrap .i64 (IntKind.wrap .u8 (Int.tdiv a1 (32:Int)))) (3:Int)), ((List.getD [(1008981770:Int), (1036831949:Int), (1065353216:Int), (981668463:Int)] x5 (0:Int)), ((List.getD [(0:Int), (1063675494:Int), (1056964608:Int)] ((0:Nat) + ((Int.toNat (Int.tmod (IntKind.wrap .u8 (Int.tdiv a2 (4:Int))) (3:Int))) * (1:Nat))) (0:Int)), ((List.getD [(1065336439:Int), (1063675494:Int)] ((0:Nat) + ((Int.toNat (Int.tmod (IntKind.wrap .u8 (Int.tdiv a2 (12:Int))) (2:Int))) * (1:Nat))) (0:Int)), ((List.getD [(841731191:Int), (981668463:Int)] ((0:Nat) + ((Int.toNat (Int.tmod (IntKind.wrap .u8 (Int.tdiv a2 (24:Int))) (2:Int))) * (1:Nat))) (0:Int)), ((List.getD [(0:Int), (1008981770:Int)] ((0:Nat) + ((Int.toNat (Int.tmod (IntKind.wrap .u8 (Int.tdiv a2 (48:Int))) (2:Int))) * (1:Nat))) (0:Int)), ((List.getD [(0:Int), (1065353216:Int), (1036831949:Int)] ((0:Nat) + ((Int.toNat (Int.tmod a3 (3:Int))) * (1:Nat))) (0:Int)), (x6, ((IntKind.wrap .i64 ((IntKind.wrap .i64 (x6 + (Int.tmod (IntKind.wrap .i64 a3) (17:Int)))) + (1:Int))), ((IntKind.wrap .i64 ((Int.tmod (IntKind.wrap .i64 (IntKind.wrap .u8 (Int.tdiv a3 (9:Int)))) (4:Int)) + (1:Int))), ((IntKind.wrap .i64 ((Int.tmod (IntKind.wrap .i64 (IntKind.wrap .u8 (Int.tdiv a3 (36:Int)))) (2:Int)) + (1:Int))), (a4, ((List.getD [(0:Int), (536870912:Int), (2147483647:Int), (0:Int)] x5 (0:Int)), (((Int.tmod a3 (5:Int)) == (0:Int)), ((IntKind.wrap .i64 (x1 + (Int.tmod (IntKind.wrap .i64 a2) x3))), (x1, (x2, ((IntKind.wrap .i64 (x1 + (1:Int))), ((IntKind.wrap .i64 ((Int.tmod (IntKind.wrap .i64 a2) (2:Int)) + (1:Int))), ((IntKind.wrap .i64 ((Int.tmod (IntKind.wrap .i64 a3) (3:Int)) + (1:Int))), ((Int.tmod (IntKind.wrap .i64 a0) (4:Int)), ())))))))))))))))))))))))))))
                                          else
                                            none
                                        else
                                          none
                                      else
                                        none
                                    else
                                      none
                                  else
                                    none
                                else
                                  none
                              else
                                none
                            else
                              none
                          else
                            none
                        else
                          none
                      else
                        none
                    else
                      none
                  else
                    none
                else
                  none
              else
                bif (Nat.beq x0 (6:Nat)) then
                  none
                else
                  none
  else
    none
noncomputable def G_annealseat_Config : T fa_annealseat_Config → TH ha_annealseat_Config → Option (List Int × Int × Int × Int × Int × Int × Int × Int × Int × Int × Int × Int × Int × Int × Int × Int × Int × Int × Bool × Int × Int × Int × Int × Int × Int × Int × Unit) := fun x y => F_annealseat_Config x.1 x.2.1 x.2.2.1 x.2.2.2.1 x.2.2.2.2.1
noncomputable def c_annealseat_Config : Orc := ent i_annealseat_Config [] 0 (sp fa_annealseat_Config ha_annealseat_Config fr_annealseat_Config hr_annealseat_Config G_annealseat_Config out_annealseat_Config)
theorem ok_annealseat_Config : OrcOk PR c_annealseat_Config := fnT okO_annealseat_Config mixed p_annealseat_Config (by kernel_rfl) (by kernel_rfl) (L := L_annealseat_Config) (kp := false) (by kernel_rfl) (inn := inn_annealseat_Config) (out := out_annealseat_Config) (fun _ _ => rfl) (loopsL (l := []) (by kernel_rfl) trivial) (fun x y => by kernel_rfl)
noncomputable def O_scaler_Begin : Orc := orn
theorem okO_scaler_Begin : OrcOk PR O_scaler_Begin := (orn_ok _)
abbrev fa_scaler_Begin : Fm := (.pair (.agg (.pair (.si .i64) (.pair (.i .i64) (.pair (.i .i64) (.pair (.i .i64) (.pair (.i .i64) (.pair (.i .i64) (.pair (.i .u32) (.pair (.i .u32) (.pair (.i .u32) (.pair (.i .u32) (.pair (.i .u32) (.pair (.i .u32) (.pair (.i .i64) (.pair (.i .i64) (.pair (.i .i64) (.pair (.i .i64) (.pair (.i .u64) (.pair (.i .u32) (.pair .b (.pair (.i .i64) (.pair (.i .i64) (.pair (.i .i64) (.pair (.i .i64) (.pair (.i .i64) (.pair (.i .i64) (.pair (.i .i64) .unit))))))))))))))))))))))))))) .unit)
abbrev ha_scaler_Begin : List BF := []
abbrev fr_scaler_Begin : Fm := (.agg (.pair (.i .i64) (.pair (.i .i64) (.pair (.i .i64) (.pair (.i .i64) .unit)))))
abbrev hr_scaler_Begin : List BF := []
noncomputable def L_scaler_Begin : Lps := L0
def inn_scaler_Begin : T fr_scaler_Begin → TH hr_scaler_Begin → Int × Int × Int × Int × Unit := (fun z w => z)
def out_scaler_Begin : Int × Int × Int × Int × Unit → T fr_scaler_Begin × TH hr_scaler_Begin := fun r => (r, ())
noncomputable def F_scaler_Begin (a0 : List Int × Int × Int × Int × Int × Int × Int × Int × Int × Int × Int × Int × Int × Int × Int × Int × Int × Int × Bool × Int × Int × Int × Int × Int × Int × Int × Unit) : Option (Int × Int × Int × Int × Unit) :=
  let x0 : Int := a0.2.2.2.2.2.2.2.2.2.2.2.2.2.2.2.2.2.2.2.1
  (some (x0, ((0:Int), ((0:Int), ((0:Int), ())))))
noncomputable def G_scaler_Begin : T fa_scaler_Begin → TH ha_scaler_Begin → Option (Int × Int × Int × Int × Unit) := fun x y => F_scaler_Begin x.1
noncomputable def c_scaler_Begin : Orc := ent i_scaler_Begin [] 0 (sp fa_scaler_Begin ha_scaler_Begin fr_scaler_Begin hr_scaler_Begin G_scaler_Begin out_scaler_Begin)
theorem ok_scaler_Begin : OrcOk PR c_scaler_Begin := fnT okO_scaler_Begin mixed p_scaler_Begin (by kernel_rfl) (by kernel_rfl) (L := L_scaler_Begin) (kp := false) (by kernel_rfl) (inn := inn_scaler_Begin) (out := out_scaler_Begin) (fun _ _ => rfl) (loopsL (l := []) (by kernel_rfl) trivial) (fun x y => by kernel_rfl)
noncomputable def O_scaler_count : Orc := orn
theorem okO_scaler_count : OrcOk PR O_scaler_count := (orn_ok _)
abbrev fa_scaler_count : Fm := (.pair (.i .i64) .unit)
abbrev ha_scaler_count : List BF := []
abbrev fr_scaler_count : Fm := .b
abbrev hr_scaler_count : List BF := []
noncomputable def L_scaler_count : Lps := L0
def inn_scaler_count : T fr_scaler_count → TH hr_scaler_count → Bool := (fun z w => z)
def out_scaler_count : Bool → T fr_scaler_count × TH hr_scaler_count := fun r => (r, ())
noncomputable def F_scaler_count (a0 : Int) : Option (Bool) :=
  bif (decide (a0 ≥ (0:Int))) then
    (some (decide (a0 ≤ (4611686018427387904:Int))))
  else
    (some false)
noncomputable def G_scaler_count : T fa_scaler_count → TH ha_scaler_count → Option (Bool) := fun x y => F_scaler_count x.1
noncomputable def c_scaler_count : Orc := ent i_scaler_count [] 0 (sp fa_scaler_count ha_scaler_count fr_scaler_count hr_scaler_count G_scaler_count out_scaler_count)
theorem ok_scaler_count : OrcOk PR c_scaler_count := fnT okO_scaler_count mixed p_scaler_count (by kernel_rfl) (by kernel_rfl) (L := L_scaler_count) (kp := false) (by kernel_rfl) (inn := inn_scaler_count) (out := out_scaler_count) (fun _ _ => rfl) (loopsL (l := []) (by kernel_rfl) trivial) (fun x y => by kernel_rfl)
noncomputable def O_scaler_Right : Orc := c_scaler_count
theorem okO_scaler_Right : OrcOk PR O_scaler_Right := ok_scaler_count
abbrev fa_scaler_Right : Fm := (.pair (.agg (.pair (.si .i64) (.pair (.i .i64) (.pair (.i .i64) (.pair (.i .i64) (.pair (.i .i64) (.pair (.i .i64) (.pair (.i .u32) (.pair (.i .u32) (.pair (.i .u32) (.pair (.i .u32) (.pair (.i .u32) (.pair (.i .u32) (.pair (.i .i64) (.pair (.i .i64) (.pair (.i .i64) (.pair (.i .i64) (.pair (.i .u64) (.pair (.i .u32) (.pair .b (.pair (.i .i64) (.pair (.i .i64) (.pair (.i .i64) (.pair (.i .i64) (.pair (.i .i64) (.pair (.i .i64) (.pair (.i .i64) .unit))))))))))))))))))))))))))) (.pair (.agg (.pair (.i .i64) (.pair (.i .i64) (.pair (.i .i64) (.pair (.i .i64) .unit))))) .unit))
abbrev ha_scaler_Right : List BF := []
abbrev fr_scaler_Right : Fm := .b
abbrev hr_scaler_Right : List BF := []
noncomputable def L_scaler_Right : Lps := L0
def inn_scaler_Right : T fr_scaler_Right → TH hr_scaler_Right → Bool := (fun z w => z)
def out_scaler_Right : Bool → T fr_scaler_Right × TH hr_scaler_Right := fun r => (r, ())
noncomputable def F_scaler_Right (a0 : List Int × Int × Int × Int × Int × Int × Int × Int × Int × Int × Int × Int × Int × Int × Int × Int × Int × Int × Bool × Int × Int × Int × Int × Int × Int × Int × Unit) (a1 : Int × Int × Int × Int × Unit) : Option (Bool) :=
  let x0 : Int := a1.2.2.1
  let x1 : Int := a1.2.2.2.1
  bif (decide (a1.1 ≥ a0.2.2.2.2.2.2.2.2.2.2.2.2.2.2.2.2.2.2.2.2.1)) then
    bif (decide (a1.1 ≤ a0.2.2.2.2.2.2.2.2.2.2.2.2.2.2.2.2.2.2.2.2.2.1)) then
      bif (decide (a1.2.1 ≥ (0:Int))) then
        bif (decide (a1.2.1 < a0.2.2.2.2.2.2.2.2.2.2.2.2.2.2.2.2.2.2.2.2.2.2.2.2.1)) then
          ((F_scaler_count x0)).bind fun r2 =>
          bif r2 then
            ((F_scaler_count x1)).bind fun r3 =>
            bif r3 then
              (some (decide (x1 ≤ x0)))
            else
              (some false)
          else
            (some false)
        else
          (some false)
      else
        (some false)
    else
      (some false)
  else
    (some false)
noncomputable def G_scaler_Right : T fa_scaler_Right → TH ha_scaler_Right → Option (Bool) := fun x y => F_scaler_Right x.1 x.2.1
noncomputable def c_scaler_Right : Orc := ent i_scaler_Right [] 0 (sp fa_scaler_Right ha_scaler_Right fr_scaler_Right hr_scaler_Right G_scaler_Right out_scaler_Right)
theorem ok_scaler_Right : OrcOk PR c_scaler_Right := fnT okO_scaler_Right mixed p_scaler_Right (by kernel_rfl) (by kernel_rfl) (L := L_scaler_Right) (kp := false) (by kernel_rfl) (inn := inn_scaler_Right) (out := out_scaler_Right) (fun _ _ => rfl) (loopsL (l := []) (by kernel_rfl) trivial) (fun x y => by kernel_rfl)
noncomputable def O_scaler_Good : Orc := c_scaler_Right
theorem okO_scaler_Good : OrcOk PR O_scaler_Good := ok_scaler_Right
abbrev fa_scaler_Good : Fm := (.pair (.agg (.pair (.si .i64) (.pair (.i .i64) (.pair (.i .i64) (.pair (.i .i64) (.pair (.i .i64) (.pair (.i .i64) (.pair (.i .u32) (.pair (.i .u32) (.pair (.i .u32) (.pair (.i .u32) (.pair (.i .u32) (.pair (.i .u32) (.pair (.i .i64) (.pair (.i .i64) (.pair (.i .i64) (.pair (.i .i64) (.pair (.i .u64) (.pair (.i .u32) (.pair .b (.pair (.i .i64) (.pair (.i .i64) (.pair (.i .i64) (.pair (.i .i64) (.pair (.i .i64) (.pair (.i .i64) (.pair (.i .i64) .unit))))))))))))))))))))))))))) (.pair (.agg (.pair (.i .i64) (.pair (.i .i64) (.pair (.i .i64) (.pair (.i .i64) .unit))))) .unit))
abbrev ha_scaler_Good : List BF := []
abbrev fr_scaler_Good : Fm := (.agg (.pair (.i .i64) (.pair (.i .i64) (.pair (.i .i64) (.pair (.i .i64) .unit)))))
abbrev hr_scaler_Good : List BF := []
noncomputable def L_scaler_Good : Lps := L0
def inn_scaler_Good : T fr_scaler_Good → TH hr_scaler_Good → Int × Int × Int × Int × Unit := (fun z w => z)
def out_scaler_Good : Int × Int × Int × Int × Unit → T fr_scaler_Good × TH hr_scaler_Good := fun r => (r, ())
noncomputable def F_scaler_Good (a0 : List Int × Int × Int × Int × Int × Int × Int × Int × Int × Int × Int × Int × Int × Int × Int × Int × Int × Int × Bool × Int × Int × Int × Int × Int × Int × Int × Unit) (a1 : Int × Int × Int × Int × Unit) : Option (Int × Int × Int × Int × Unit) :=
  let x0 : Int := (IntKind.wrap .i64 (a1.2.1 + (1:Int)))
  let x1 : Int := a0.2.2.2.2.2.2.2.2.2.2.2.2.2.2.2.2.2.2.2.2.2.2.2.2.1
  let x2 : Int := a0.2.2.2.2.2.2.2.2.2.2.2.2.2.2.2.2.2.2.2.2.2.2.2.1
  let x3 : Int := a0.2.2.2.2.2.2.2.2.2.2.2.2.2.2.2.2.2.2.2.2.2.1
  let x4 : Int := a1.2.2.1
  ((F_scaler_Right ((List.take (List.length a0.1) a0.1), a0.2) a1)).bind fun r5 =>
  bif (!r5) then
    (some a1)
  else
    bif (x0 == x1) then
      (some ((mn (IntKind.wrap .i64 (a1.1 + x2)) x3), ((0:Int), (x4, ((0:Int), ())))))
    else
      (some (a1.1, (x0, (x4, ((0:Int), ())))))
noncomputable def G_scaler_Good : T fa_scaler_Good → TH ha_scaler_Good → Option (Int × Int × Int × Int × Unit) := fun x y => F_scaler_Good x.1 x.2.1
noncomputable def c_scaler_Good : Orc := ent i_scaler_Good [] 0 (sp fa_scaler_Good ha_scaler_Good fr_scaler_Good hr_scaler_Good G_scaler_Good out_scaler_Good)
theorem ok_scaler_Good : OrcOk PR c_scaler_Good := fnT okO_scaler_Good mixed p_scaler_Good (by kernel_rfl) (by kernel_rfl) (L := L_scaler_Good) (kp := false) (by kernel_rfl) (inn := inn_scaler_Good) (out := out_scaler_Good) (fun _ _ => rfl) (loopsL (l := []) (by kernel_rfl) trivial) (fun x y => by kernel_rfl)
noncomputable def O_scaler_Skip : Orc := c_scaler_Right
theorem okO_scaler_Skip : OrcOk PR O_scaler_Skip := ok_scaler_Right
abbrev fa_scaler_Skip : Fm := (.pair (.agg (.pair (.si .i64) (.pair (.i .i64) (.pair (.i .i64) (.pair (.i .i64) (.pair (.i .i64) (.pair (.i .i64) (.pair (.i .u32) (.pair (.i .u32) (.pair (.i .u32) (.pair (.i .u32) (.pair (.i .u32) (.pair (.i .u32) (.pair (.i .i64) (.pair (.i .i64) (.pair (.i .i64) (.pair (.i .i64) (.pair (.i .u64) (.pair (.i .u32) (.pair .b (.pair (.i .i64) (.pair (.i .i64) (.pair (.i .i64) (.pair (.i .i64) (.pair (.i .i64) (.pair (.i .i64) (.pair (.i .i64) .unit))))))))))))))))))))))))))) (.pair (.agg (.pair (.i .i64) (.pair (.i .i64) (.pair (.i .i64) (.pair (.i .i64) .unit))))) .unit))
abbrev ha_scaler_Skip : List BF := []
abbrev fr_scaler_Skip : Fm := (.agg (.pair (.i .i64) (.pair (.i .i64) (.pair (.i .i64) (.pair (.i .i64) .unit)))))
abbrev hr_scaler_Skip : List BF := []
noncomputable def L_scaler_Skip : Lps := L0
def inn_scaler_Skip : T fr_scaler_Skip → TH hr_scaler_Skip → Int × Int × Int × Int × Unit := (fun z w => z)
def out_scaler_Skip : Int × Int × Int × Int × Unit → T fr_scaler_Skip × TH hr_scaler_Skip := fun r => (r, ())
noncomputable def F_scaler_Skip (a0 : List Int × Int × Int × Int × Int × Int × Int × Int × Int × Int × Int × Int × Int × Int × Int × Int × Int × Int × Bool × Int × Int × Int × Int × Int × Int × Int × Unit) (a1 : Int × Int × Int × Int × Unit) : Option (Int × Int × Int × Int × Unit) :=
  let x0 : Int := a0.2.2.2.2.2.2.2.2.2.2.2.2.2.2.2.2.2.2.2.2.2.2.1
  let x1 : Int := a0.2.2.2.2.2.2.2.2.2.2.2.2.2.2.2.2.2.2.2.2.1
  let x2 : Int := a1.2.2.1
  let x3 : Int := a1.2.2.2.1
  ((F_scaler_Right ((List.take (List.length a0.1) a0.1), a0.2) a1)).bind fun r4 =>
  bif (!r4) then
    (some a1)
  else
    (some ((mx (IntKind.wrap .i64 (a1.1 - x0)) x1), ((0:Int), ((mn (IntKind.wrap .i64 (x2 + (1:Int))) (4611686018427387904:Int)), ((mn (IntKind.wrap .i64 (x3 + (1:Int))) (4611686018427387904:Int)), ())))))
noncomputable def G_scaler_Skip : T fa_scaler_Skip → TH ha_scaler_Skip → Option (Int × Int × Int × Int × Unit) := fun x y => F_scaler_Skip x.1 x.2.1
noncomputable def c_scaler_Skip : Orc := ent i_scaler_Skip [] 0 (sp fa_scaler_Skip ha_scaler_Skip fr_scaler_Skip hr_scaler_Skip G_scaler_Skip out_scaler_Skip)
theorem ok_scaler_Skip : OrcOk PR c_scaler_Skip := fnT okO_scaler_Skip mixed p_scaler_Skip (by kernel_rfl) (by kernel_rfl) (L := L_scaler_Skip) (kp := false) (by kernel_rfl) (inn := inn_scaler_Skip) (out := out_scaler_Skip) (fun _ _ => rfl) (loopsL (l := []) (by kernel_rfl) trivial) (fun x y => by kernel_rfl)
noncomputable def O_anneallaw22_known : Orc := (orm c_annealseat_Config (orm c_scaler_Begin (orm c_scaler_Skip c_scaler_Good)))
theorem okO_anneallaw22_known : OrcOk PR O_anneallaw22_known := (orm_ok ok_annealseat_Config (orm_ok ok_scaler_Begin (orm_ok ok_scaler_Skip ok_scaler_Good)))
abbrev fa_anneallaw22_known : Fm := .unit
abbrev ha_anneallaw22_known : List BF := []
abbrev fr_anneallaw22_known : Fm := .b
abbrev hr_anneallaw22_known : List BF := []
noncomputable def L_anneallaw22_known : Lps := L0
def inn_anneallaw22_known : T fr_anneallaw22_known → TH hr_anneallaw22_known → Bool := (fun z w => z)
def out_anneallaw22_known : Bool → T fr_anneallaw22_known × TH hr_anneallaw22_known := fun r => (r, ())
noncomputable def F_anneallaw22_known  : Option (Bool) :=
  (some true)
noncomputable def G_anneallaw22_known : T fa_anneallaw22_known → TH ha_anneallaw22_known → Option (Bool) := fun x y => F_anneallaw22_known 
noncomputable def c_anneallaw22_known : Orc := ent i_anneallaw22_known [] 0 (sp fa_anneallaw22_known ha_anneallaw22_known fr_anneallaw22_known hr_anneallaw22_known G_anneallaw22_known out_anneallaw22_known)
theorem ok_anneallaw22_known : OrcOk PR c_anneallaw22_known := fnT okO_anneallaw22_known mixed p_anneallaw22_known (by kernel_rfl) (by kernel_rfl) (L := L_anneallaw22_known) (kp := false) (by kernel_rfl) (inn := inn_anneallaw22_known) (out := out_anneallaw22_known) (fun _ _ => rfl) (loopsL (l := []) (by kernel_rfl) trivial) (fun x y => by kernel_rfl)
noncomputable def O_anneallaw22_ScalerPlays : Orc := (orm c_anneallaw22_known (orm c_annealseat_Config (orm c_scaler_Begin (orm c_scaler_Good (orm c_scaler_Skip c_scaler_Right)))))
theorem okO_anneallaw22_ScalerPlays : OrcOk PR O_anneallaw22_ScalerPlays := (orm_ok ok_anneallaw22_known (orm_ok ok_annealseat_Config (orm_ok ok_scaler_Begin (orm_ok ok_scaler_Good (orm_ok ok_scaler_Skip ok_scaler_Right)))))
abbrev fa_anneallaw22_ScalerPlays : Fm := (.pair (.i .u8) (.pair (.i .u8) (.pair (.i .u8) (.pair (.i .u8) (.pair (.sr .b 1) .unit)))))
abbrev ha_anneallaw22_ScalerPlays : List BF := []
abbrev fr_anneallaw22_ScalerPlays : Fm := .b
abbrev hr_anneallaw22_ScalerPlays : List BF := []
abbrev ff_anneallaw22_ScalerPlays_0 : Fm := (.us 4 (.pair (.sr .b 1) (.us 6 (.cst (.ref 0 1 0) (.cst (.ref 1 1 0) (.pair (.i .i64) (.pair (.i .i64) (.pair (.i .i64) (.pair (.i .i64) (.pair (.i .i64) (.us 67 .unit)))))))))))
abbrev hf_anneallaw22_ScalerPlays_0 : List BF := [(.list 1 y_api_Config true (.pair (.si .i64) (.pair (.i .i64) (.pair (.i .i64) (.pair (.i .i64) (.pair (.i .i64) (.pair (.i .i64) (.pair (.i .u32) (.pair (.i .u32) (.pair (.i .u32) (.pair (.i .u32) (.pair (.i .u32) (.pair (.i .u32) (.pair (.i .i64) (.pair (.i .i64) (.pair (.i .i64) (.pair (.i .i64) (.pair (.i .u64) (.pair (.i .u32) (.pair .b (.pair (.i .i64) (.pair (.i .i64) (.pair (.i .i64) (.pair (.i .i64) (.pair (.i .i64) (.pair (.i .i64) (.pair (.i .i64) .unit))))))))))))))))))))))))))), (.list 1 y_api_Scale true (.pair (.i .i64) (.pair (.i .i64) (.pair (.i .i64) (.pair (.i .i64) .unit)))))]
abbrev X_anneallaw22_ScalerPlays_0 : Xs := (.alt (.exit 0) [] (.us 85 .unit) [] (.one .ret [10] (.us 10 (.pair .b (.us 74 .unit))) []))
abbrev S_anneallaw22_ScalerPlays_0 : Type := T ff_anneallaw22_ScalerPlays_0 × TH hf_anneallaw22_ScalerPlays_0
abbrev E_anneallaw22_ScalerPlays_0 : Type := TX X_anneallaw22_ScalerPlays_0
noncomputable def LB_anneallaw22_ScalerPlays_0 : Lps := L0
noncomputable def st_anneallaw22_ScalerPlays_0 : StepT S_anneallaw22_ScalerPlays_0 E_anneallaw22_ScalerPlays_0 := fun R v kn ko =>
  let x0 : List (T Fm.b) := v.1.1
  let x1 : Int := v.1.2.2.2.2.2.1
  let x2 : List Int := v.2.1.1
  let x3 : Int := (IntKind.wrap .i64 (v.1.2.2.1 + (1:Int)))
  let x4 : Int := v.1.2.1
  let x5 : Int := (mn (IntKind.wrap .i64 (x4 + v.2.1.2.2.2.2.2.2.2.2.2.2.2.2.2.2.2.2.2.2.2.2.2.2.2.1)) v.2.1.2.2.2.2.2.2.2.2.2.2.2.2.2.2.2.2.2.2.2.2.2.1)
  let x6 : Int := v.1.2.2.2.1
  let x7 : Nat := (List.length x0)
  let x9 : Bool := (((allR x7 (fun j8 => true)) && true) && true)
  let x11 : List (T Fm.b) := (rowsOf x7 (fun j10 => (List.getD x0 j10 false)))
  let x12 : Int := (mx (IntKind.wrap .i64 (x4 - v.2.1.2.2.2.2.2.2.2.2.2.2.2.2.2.2.2.2.2.2.2.2.2.2.1)) v.2.1.2.2.2.2.2.2.2.2.2.2.2.2.2.2.2.2.2.2.2.2.1)
  let x13 : Int := (IntKind.wrap .i64 (x6 + (1:Int)))
  let x14 : Int := (IntKind.wrap .i64 (v.1.2.2.2.2.1 + (1:Int)))
  bif (decide (x1 < ((x7 : Nat) : Int))) then
    bif (decide (((0:Int) ≤ x1) ∧ (x1 < ((x7 : Nat) : Int)))) then
      bif (List.getD x0 (Int.toNat x1) false) then
        ((F_scaler_Good ((List.take (List.length x2) x2), v.2.1.2) v.2.2.1)).bind fun r15 =>
        let x16 : Int := r15.2.2.1
        let x17 : Int := r15.2.2.2.1
        let x18 : Bool := ((x16 == x6) && ((x17 == (0:Int)) && true))
        bif (x3 == v.2.1.2.2.2.2.2.2.2.2.2.2.2.2.2.2.2.2.2.2.2.2.2.2.2.2.1) then
          bif (!((r15.1 == x5) && ((r15.2.1 == (0:Int)) && x18))) then
            (ko (Sum.inr ((false, ()), ())))
          else
            ((F_scaler_Right ((List.take (List.length x2) x2), v.2.1.2) r15)).bind fun r19 =>
            bif (!r19) then
              (ko (Sum.inr ((false, ()), ())))
            else
              bif x9 then
                (kn ((x11, (x5, ((0:Int), (x6, ((0:Int), ((IntKind.wrap .i64 (x1 + (1:Int))), ())))))), (((List.take (List.length x2) x2), v.2.1.2), (r15, ()))))
              else
                none
        else
          bif (!((r15.1 == x4) && ((r15.2.1 == x3) && x18))) then
            (ko (Sum.inr ((false, ()), ())))
          else
            ((F_scaler_Right ((List.take (List.length x2) x2), v.2.1.2) r15)).bind fun r20 =>
            bif (!r20) then
              (ko (Sum.inr ((false, ()), ())))
            else
              bif x9 then
                (kn ((x11, (x4, (x3, (x6, ((0:Int), ((IntKind.wrap .i64 (x1 + (1:Int))), ())))))), (((List.take (List.length x2) x2), v.2.1.2), (r15, ()))))
              else
                none
      else
        ((F_scaler_Skip ((List.take (List.length x2) x2), v.2.1.2) v.2.2.1)).bind fun r21 =>
        let x22 : Int := r21.2.2.1
        let x23 : Int := r21.2.2.2.1
        bif (!((r21.1 == x12) && ((r21.2.1 == (0:Int)) && ((x22 == x13) && ((x23 == x14) && true))))) then
          (ko (Sum.inr ((false, ()), ())))
        else
          ((F_scaler_Right ((List.take (List.length x2) x2), v.2.1.2) r21)).bind fun r24 =>
          bif (!r24) then
            (ko (Sum.inr ((false, ()), ())))
          else
            bif x9 then
              (kn ((x11, (x12, ((0:Int), (x13, (x14, ((IntKind.wrap .i64 (x1 + (1:Int))), ())))))), (((List.take (List.length x2) x2), v.2.1.2), (r21, ()))))
            else
              none
    else
      none
  else
    (ko (Sum.inl ((), ())))
noncomputable def ls_anneallaw22_ScalerPlays_0 : St → LTr := (lsum ff_anneallaw22_ScalerPlays_0 hf_anneallaw22_ScalerPlays_0 X_anneallaw22_ScalerPlays_0 Prod.mk id st_anneallaw22_ScalerPlays_0 (hd [] [] [4, 11, 12, 13, 14, 15, 16, 17] 0))
theorem lp_anneallaw22_ScalerPlays_0 : LoopOk PR 0 (lpN f_anneallaw22_ScalerPlays 0) ls_anneallaw22_ScalerPlays_0 := loopT okO_anneallaw22_ScalerPlays mixed (L := LB_anneallaw22_ScalerPlays_0) (d := 1) (bs := []) (ks := [4, 11, 12, 13, 14, 15, 16, 17]) (loopsL (l := []) (by kernel_rfl) trivial) (by kernel_rfl) (inS := Prod.mk) (outS := id) (fun _ _ => rfl) (inX := id) (outX := id) (fun _ => rfl) (fun v R kn ko => by kernel_rfl) (hd_wk [] [] [4, 11, 12, 13, 14, 15, 16, 17] 0)
noncomputable def L_anneallaw22_ScalerPlays : Lps := (lpB 10 (.by_ ls_anneallaw22_ScalerPlays_0) L0)
def inn_anneallaw22_ScalerPlays : T fr_anneallaw22_ScalerPlays → TH hr_anneallaw22_ScalerPlays → Bool := (fun z w => z)
def out_anneallaw22_ScalerPlays : Bool → T fr_anneallaw22_ScalerPlays × TH hr_anneallaw22_ScalerPlays := fun r => (r, ())
noncomputable def F_anneallaw22_ScalerPlays (a0 : Int) (a1 : Int) (a2 : Int) (a3 : Int) (a4 : List (Bool)) : Option (Bool) :=
  bif (decide ((((List.length a4) : Nat) : Int) > (100:Int))) then
    (some true)
  else
    ((F_annealseat_Config a0 a1 a2 a3 (1:Int))).bind fun r0 =>
    let x1 : Int := r0.2.2.2.2.2.2.2.2.2.2.2.2.2.2.2.2.2.2.2.1
    bif (((allR (List.length a4) (fun j2 => true)) && true) && true) then
      ((lim st_anneallaw22_ScalerPlays_0 (((rowsOf (List.length a4) (fun j3 => (List.getD a4 j3 false))), (x1, ((0:Int), ((0:Int), ((0:Int), ((0:Int), ())))))), (((List.take (List.length r0.1) r0.1), r0.2), ((x1, ((0:Int), ((0:Int), ((0:Int), ())))), ()))))).bind fun r4 =>
      els (fun l5 =>
        (some true)) (fun r6 =>
        (some r6.1.1)) r4
    else
      none
noncomputable def G_anneallaw22_ScalerPlays : T fa_anneallaw22_ScalerPlays → TH ha_anneallaw22_ScalerPlays → Option (Bool) := fun x y => F_anneallaw22_ScalerPlays x.1 x.2.1 x.2.2.1 x.2.2.2.1 x.2.2.2.2.1
noncomputable def c_anneallaw22_ScalerPlays : Orc := ent i_anneallaw22_ScalerPlays [] 0 (sp fa_anneallaw22_ScalerPlays ha_anneallaw22_ScalerPlays fr_anneallaw22_ScalerPlays hr_anneallaw22_ScalerPlays G_anneallaw22_ScalerPlays out_anneallaw22_ScalerPlays)
theorem ok_anneallaw22_ScalerPlays : OrcOk PR c_anneallaw22_ScalerPlays := fnT okO_anneallaw22_ScalerPlays mixed p_anneallaw22_ScalerPlays (by kernel_rfl) (by kernel_rfl) (L := L_anneallaw22_ScalerPlays) (kp := false) (by kernel_rfl) (inn := inn_anneallaw22_ScalerPlays) (out := out_anneallaw22_ScalerPlays) (fun _ _ => rfl) (loopsL (l := [((lpN f_anneallaw22_ScalerPlays 0), ls_anneallaw22_ScalerPlays_0)]) (by kernel_rfl) ⟨lp_anneallaw22_ScalerPlays_0, trivial⟩) (fun x y => by kernel_rfl)
end Go.Proofs.Ytcpicekmnkjceaa.VI

namespace Go.Proofs.Ytcpicekmnkjceaa.VI
set_option linter.unusedVariables false
set_option linter.unusedSimpArgs false
set_option linter.unusedSimpArgs false
set_option linter.unusedVariables false
set_option maxRecDepth 100000
set_option maxHeartbeats 4000000
theorem cfg_eq {a b c d s : Int} (ha : 0 ≤ a ∧ a ≤ 255) (hb : 0 ≤ b ∧ b ≤ 255) (hc : 0 ≤ c ∧ c ≤ 255) (hd : 0 ≤ d ∧ d ≤ 255) : F_annealseat_Config a b c d s = some (cfg a b c d s) := by
  have e0 : Int.tmod a 6 = a % 6 := tmod_nn ha.1
  have e1 : IntKind.i64.wrap b = b := wi64 (by omega)
  have e2 : IntKind.i64.wrap a = a := wi64 (by omega)
  have e3 : IntKind.i64.wrap c = c := wi64 (by omega)
  have e4 : IntKind.i64.wrap d = d := wi64 (by omega)
  have e5 : Int.tmod b 3 = b % 3 := tmod_nn hb.1
  have e6 : Int.tmod a 25 = a % 25 := tmod_nn ha.1
  have e7 : IntKind.i64.wrap (b % 3 + a % 25) = b % 3 + a % 25 := wi64 (by omega)
  have e8 : IntKind.i64.wrap (b % 3 + a % 25 - b % 3) = a % 25 := by rw [wi64 (by omega)]; omega
  have e9 : IntKind.i64.wrap (a % 25 + 1) = a % 25 + 1 := wi64 (by omega)
  have e10 : Int.tmod c 4 = c % 4 := tmod_nn hc.1
  have e11 : IntKind.i64.wrap (IntKind.u8.wrap (Int.tdiv d 3)) = d / 3 := by rw [tdiv_nn hd.1, wu8 (by omega), wi64 (by omega)]
  have e12 : Int.tmod (d / 3) 4 = d / 3 % 4 := tmod_nn (by omega)
  have e13 : IntKind.u8.wrap (Int.tdiv c 4) = c / 4 := by rw [tdiv_nn hc.1, wu8 (by omega)]
  have e14 : Int.tmod (c / 4) 3 = c / 4 % 3 := tmod_nn (by omega)
  have e15 : IntKind.u8.wrap (Int.tdiv c 12) = c / 12 := by rw [tdiv_nn hc.1, wu8 (by omega)]
  have e16 : Int.tmod (c / 12) 2 = c / 12 % 2 := tmod_nn (by omega)
  have e17 : IntKind.u8.wrap (Int.tdiv c 24) = c / 24 := by rw [tdiv_nn hc.1, wu8 (by omega)]
  have e18 : Int.tmod (c / 24) 2 = c / 24 % 2 := tmod_nn (by omega)
  have e19 : IntKind.u8.wrap (Int.tdiv c 48) = c / 48 := by rw [tdiv_nn hc.1, wu8 (by omega)]
  have e20 : Int.tmod (c / 48) 2 = c / 48 % 2 := tmod_nn (by omega)
  have e21 : Int.tmod d 3 = d % 3 := tmod_nn hd.1
  have e22 : IntKind.i64.wrap (IntKind.u8.wrap (Int.tdiv a 6)) = a / 6 := by rw [tdiv_nn ha.1, wu8 (by omega), wi64 (by omega)]
  have e23 : Int.tmod (a / 6) 3 = a / 6 % 3 := tmod_nn (by omega)
  have e24 : Int.tmod b 4 = b % 4 := tmod_nn hb.1
  have e25 : IntKind.i64.wrap (IntKind.u8.wrap (Int.tdiv b 4)) = b / 4 := by rw [tdiv_nn hb.1, wu8 (by omega), wi64 (by omega)]
  have e26 : Int.tmod (b / 4) 2 = b / 4 % 2 := tmod_nn (by omega)
  have e27 : IntKind.i64.wrap (IntKind.u8.wrap (Int.tdiv b 8)) = b / 8 := by rw [tdiv_nn hb.1, wu8 (by omega), wi64 (by omega)]
  have e28 : Int.tmod (b / 8) 4 = b / 8 % 4 := tmod_nn (by omega)
  have e29 : IntKind.i64.wrap (IntKind.u8.wrap (Int.tdiv b 32)) = b / 32 := by rw [tdiv_nn hb.1, wu8 (by omega), wi64 (by omega)]
  have e30 : Int.tmod (b / 32) 3 = b / 32 % 3 := tmod_nn (by omega)
  have e31 : Int.tmod d 17 = d % 17 := tmod_nn hd.1
  have e32 : IntKind.i64.wrap (IntKind.i64.wrap (d / 3 % 4 + d % 17) + 1) = d / 3 % 4 + d % 17 + 1 := by rw [wi64 (n := d / 3 % 4 + d % 17) (by omega), wi64 (by omega)]
  have e33 : IntKind.i64.wrap (IntKind.u8.wrap (Int.tdiv d 9)) = d / 9 := by rw [tdiv_nn hd.1, wu8 (by omega), wi64 (by omega)]
  have e34 : Int.tmod (d / 9) 4 = d / 9 % 4 := tmod_nn (by omega)
  have e35 : IntKind.i64.wrap (d / 9 % 4 + 1) = d / 9 % 4 + 1 := wi64 (by omega)
  have e36 : IntKind.i64.wrap (IntKind.u8.wrap (Int.tdiv d 36)) = d / 36 := by rw [tdiv_nn hd.1, wu8 (by omega), wi64 (by omega)]
  have e37 : Int.tmod (d / 36) 2 = d / 36 % 2 := tmod_nn (by omega)
  have e38 : IntKind.i64.wrap (d / 36 % 2 + 1) = d / 36 % 2 + 1 := wi64 (by omega)
  have e39 : Int.tmod d 5 = d % 5 := tmod_nn hd.1
  have e40 : Int.tmod c (a % 25 + 1) = c % (a % 25 + 1) := tmod_nn hc.1
  have hm : 0 ≤ c % (a % 25 + 1) ∧ c % (a % 25 + 1) < a % 25 + 1 := ⟨Int.emod_nonneg _ (by omega), Int.emod_lt_of_pos _ (by omega)⟩
  have e41 : IntKind.i64.wrap (b % 3 + c % (a % 25 + 1)) = b % 3 + c % (a % 25 + 1) := wi64 (by omega)
  have e42 : IntKind.i64.wrap (b % 3 + 1) = b % 3 + 1 := wi64 (by omega)
  have e43 : Int.tmod c 2 = c % 2 := tmod_nn hc.1
  have e44 : IntKind.i64.wrap (c % 2 + 1) = c % 2 + 1 := wi64 (by omega)
  have e45 : IntKind.i64.wrap (d % 3 + 1) = d % 3 + 1 := wi64 (by omega)
  have e46 : Int.tmod a 4 = a % 4 := tmod_nn ha.1
  have h0 : (a % 25 + 1 == 0) = false := by simp; omega
  have g1 : ∀ (x : Int) (n : Int), (0 ≤ x % n ∧ x % n < n) = (0 ≤ x % n ∧ x % n < n) := fun _ _ => rfl
  have c1 : (0 ≤ a % 6 ∧ a % 6 < 6) = True := by simp; omega
  have c2 : (0 ≤ c % 4 ∧ c % 4 < 4) = True := by simp; omega
  have c3 : (0 ≤ c / 4 % 3 ∧ c / 4 % 3 < 3) = True := by simp; omega
  have c4 : (0 ≤ c / 12 % 2 ∧ c / 12 % 2 < 2) = True := by simp; omega
  have c5 : (0 ≤ c / 24 % 2 ∧ c / 24 % 2 < 2) = True := by simp; omega
  have c6 : (0 ≤ c / 48 % 2 ∧ c / 48 % 2 < 2) = True := by simp; omega
  have c7 : (0 ≤ d % 3 ∧ d % 3 < 3) = True := by simp; omega
  have z : ∀ n : Nat, 0 + n * 1 = n := fun n => by omega
  have t1 : ((c % 4).toNat < 4) = True := by simp; omega
  have t2 : ((c / 4 % 3).toNat < 3) = True := by simp; omega
  have t3 : ((c / 12 % 2).toNat < 2) = True := by simp; omega
  have t4 : ((c / 24 % 2).toNat < 2) = True := by simp; omega
  have t5 : ((c / 48 % 2).toNat < 2) = True := by simp; omega
  have t6 : ((d % 3).toNat < 3) = True := by simp; omega
  unfold F_annealseat_Config
  simp only [e0, e1, e2, e3, e4, e5, e6, e7, e8, e9, e10, e11, e12, e13, e14, e15, e16, e17, e18, e19, e20, e21, e22, e23, e24, e25, e26, e27, e28, e29, e30, e31, e32, e33, e34, e35, e36, e37, e38, e39, e40, e41, e42, e43, e44, e45, e46, h0, c1, c2, c3, c4, c5, c6, c7, z, t1, t2, t3, t4, t5, t6, decide_true, cond_true, cond_false, bif_beq]
  unfold cfg wlist
  have : a % 6 = 0 ∨ a % 6 = 1 ∨ a % 6 = 2 ∨ a % 6 = 3 ∨ a % 6 = 4 ∨ a % 6 = 5 := by omega
  rcases this with h | h | h | h | h | h <;> simp [h]
end Go.Proofs.Ytcpicekmnkjceaa.VI
