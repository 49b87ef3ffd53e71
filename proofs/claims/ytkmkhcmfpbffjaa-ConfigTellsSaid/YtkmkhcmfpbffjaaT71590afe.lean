import Derived.Test.YtkmkhcmfpbffjaaT0a33d768
namespace Go.Proofs.Ytkmkhcmfpbffjaa.VI
set_option linter.unusedVariables false
set_option linter.unusedSimpArgs false
set_option maxRecDepth 100000
set_option maxHeartbeats 4000000
theorem e1 {v : Int} (h : 0 ≤ v ∧ v < 256) : 0 + v * 2 ^ (8 * 0) = v := by simp
theorem e2 {v : Int} (h : 0 ≤ v ∧ v < 65536) : 0 + v / 2 ^ (8 * 0) % 256 * 2 ^ (8 * 0) + v / 2 ^ (8 * 1) % 256 * 2 ^ (8 * 1) = v := by
  simp only [Nat.reduceMul, Int.reducePow]; omega
theorem e4 {v : Int} (h : 0 ≤ v ∧ v < 4294967296) : 0 + v / 2 ^ (8 * 0) % 256 * 2 ^ (8 * 0) + v / 2 ^ (8 * 1) % 256 * 2 ^ (8 * 1) + v / 2 ^ (8 * 2) % 256 * 2 ^ (8 * 2) + v / 2 ^ (8 * 3) % 256 * 2 ^ (8 * 3) = v := by
  simp only [Nat.reduceMul, Int.reducePow]; omega
theorem e8 {v : Int} (h : 0 ≤ v ∧ v < 18446744073709551616) : 0 + v / 2 ^ (8 * 0) % 256 * 2 ^ (8 * 0) + v / 2 ^ (8 * 1) % 256 * 2 ^ (8 * 1) + v / 2 ^ (8 * 2) % 256 * 2 ^ (8 * 2) + v / 2 ^ (8 * 3) % 256 * 2 ^ (8 * 3) + v / 2 ^ (8 * 4) % 256 * 2 ^ (8 * 4) + v / 2 ^ (8 * 5) % 256 * 2 ^ (8 * 5) + v / 2 ^ (8 * 6) % 256 * 2 ^ (8 * 6) + v / 2 ^ (8 * 7) % 256 * 2 ^ (8 * 7) = v := by
  simp only [Nat.reduceMul, Int.reducePow]; omega
theorem wbs_drop (w : List Int) (t : List Int) {i : Nat} : ∀ {n : Nat}, i < n → ∃ r, (wbs w n ++ t).drop (2 * i) = bts 2 (w.getD i 0) ++ r
  | 0, h => by omega
  | n + 1, h => by
    simp only [wbs]
    by_cases e : i = n
    · subst e
      refine ⟨t, ?_⟩
      rw [List.append_assoc, List.drop_append_of_le_length (by rw [wbs_len]; exact Nat.le_refl _), List.drop_of_length_le (by rw [wbs_len]; exact Nat.le_refl _), List.nil_append]
    · obtain ⟨r, hr⟩ := wbs_drop w (bts 2 (w.getD n 0) ++ t) (i := i) (n := n) (by omega)
      exact ⟨r, by rw [List.append_assoc]; exact hr⟩
theorem enc_drop (c : CfgT) {j : Nat} : (enc_ c).drop (9 + j) = (wbs c.w c.w.length ++ tail c).drop j := by
  unfold enc_ head
  rw [← List.drop_drop]; rfl
theorem enc_tail (c : CfgT) : (enc_ c).drop (9 + 2 * c.w.length) = tail c := by
  rw [enc_drop, List.drop_append_of_le_length (by rw [wbs_len]; exact Nat.le_refl _), List.drop_of_length_le (by rw [wbs_len]; exact Nat.le_refl _), List.nil_append]
theorem wdec_enc {c : CfgT} (h : wok c.w) : ∀ n, n ≤ c.w.length → wdec (enc_ c) n = c.w.take n
  | 0, _ => by simp [wdec]
  | n + 1, hn => by
    rw [wdec, wdec_enc h n (by omega), enc_drop]
    obtain ⟨r, hr⟩ := wbs_drop c.w (tail c) (i := n) (n := c.w.length) (by omega)
    rw [hr]
    have hw := h.2.2 n (by omega)
    have : leN 2 (bts 2 (c.w.getD n 0) ++ r) = c.w.getD n 0 := e2 (v := c.w.getD n 0) (by omega)
    rw [this, List.take_add_one]
    have hg : c.w.getD n 0 = c.w[n]'(by omega) := by rw [List.getD_eq_getElem?_getD, List.getElem?_eq_getElem (by omega)]; rfl
    rw [hg, List.getElem?_eq_getElem (by omega)]; rfl
theorem enc_nW (c : CfgT) : nW (enc_ c) = c.w.length := by simp [nW, enc_, head]
theorem enc_flag (c : CfgT) : leN 1 (((enc_ c).drop (9 + 2 * nW (enc_ c))).drop 5) = flagN c.chance := by
  rw [enc_nW, enc_tail]
  exact (show _ = 0 + flagN c.chance * 2 ^ (8 * 0) from rfl).trans (by simp)
def cW (c : CfgT) : Prop := cU c ∧ (0 ≤ c.seed ∧ c.seed < 18446744073709551616) ∧ 0 ≤ c.drop
theorem dec_enc {c : CfgT} (hr : right c) (hc : cW c) : decC (enc_ c) c.chance = c := by
  unfold decC
  rw [enc_nW, enc_tail, wdec_enc hr.1 _ (Nat.le_refl _), List.take_length]
  obtain ⟨w, f, act, loss, opt, sched, rate, mu, beta, eps, decay, clip, warm, total, batch, accum, seed, drop, chance, log, mi, ma, bk, gr, itv, save, _⟩ := c
  obtain ⟨_, _, ⟨k1, k2, k3, k4, k5⟩, _, ⟨q1, q2, q3, q4, q5, q6, q7, q8, q9, q10, q11, q12⟩, _⟩ := hr
  obtain ⟨⟨u1, u2, u3, u4, u5, u6⟩, s1, s2⟩ := hc
  simp only [CfgT.f, CfgT.act, CfgT.loss, CfgT.opt, CfgT.sched, CfgT.rate, CfgT.mu, CfgT.beta, CfgT.eps, CfgT.decay, CfgT.clip, CfgT.warm, CfgT.total, CfgT.batch, CfgT.accum, CfgT.seed, CfgT.drop, CfgT.chance, CfgT.log, CfgT.mi, CfgT.ma, CfgT.bk, CfgT.gr, CfgT.itv, CfgT.save, CfgT.w] at *
  refine Prod.ext rfl ?_
  exact Prod.ext (e1 (v := f) (by omega)) (Prod.ext (e1 (v := act) (by omega)) (Prod.ext (e1 (v := loss) (by omega)) (Prod.ext (e1 (v := opt) (by omega)) (Prod.ext (e1 (v := sched) (by omega)) (Prod.ext (e4 (v := rate) (by omega)) (Prod.ext (e4 (v := mu) (by omega)) (Prod.ext (e4 (v := beta) (by omega)) (Prod.ext (e4 (v := eps) (by omega)) (Prod.ext (e4 (v := decay) (by omega)) (Prod.ext (e4 (v := clip) (by omega)) (Prod.ext (e4 (v := warm) (by omega)) (Prod.ext (e4 (v := total) (by omega)) (Prod.ext (e2 (v := batch) (by omega)) (Prod.ext (e2 (v := accum) (by omega)) (Prod.ext (e8 (v := seed) (by omega)) (Prod.ext (e4 (v := drop) (by omega)) (Prod.ext rfl (Prod.ext (e1 (v := log) (by omega)) (Prod.ext (e1 (v := mi) (by omega)) (Prod.ext (e1 (v := ma) (by omega)) (Prod.ext (e1 (v := bk) (by omega)) (Prod.ext (e1 (v := gr) (by omega)) (Prod.ext (e4 (v := itv) (by omega)) (Prod.ext (e4 (v := save) (by omega)) (rfl)))))))))))))))))))))))))
theorem isE_dec {b : List Int} {c : CfgT} (h : isE b c) (hc : cW c) : decP b = c ∧ decQ b = c := by
  obtain ⟨hr, rfl⟩ := h
  have hd := dec_enc hr hc
  unfold decP decQ
  rw [enc_flag]
  have e1 : (flagN c.chance != 0) = c.chance := by cases c.chance <;> rfl
  have e2 : (flagN c.chance == 1) = c.chance := by cases c.chance <;> rfl
  rw [e1, e2]; exact ⟨hd, hd⟩
noncomputable def rd (b : List Int) : CfgT × Int × Unit := if isE b (decP b) then (decP b, 0, ()) else (zCfg, 20, ())
theorem cread {b : List Int} (h : byt b) (hL : b.length ≤ 1073741824) : F_9d b = some (rd b) := cread_eq h hL
theorem rd_enc {c : CfgT} (hr : right c) (hc : cW c) : rd (enc_ c) = (c, 0, ()) := by
  unfold rd
  have := (isE_dec ⟨hr, rfl⟩ hc).1
  rw [this, if_pos ⟨hr, rfl⟩]
noncomputable def O_91d : Orc := orn
theorem okO_91d : OrcOk PR O_91d := (orn_ok _)
abbrev fa_91d : Fm := (.pair (.si .i64) (.pair (.si .i64) .unit))
abbrev fr_91d : Fm := .b
abbrev ff_91d_0 : Fm := (.pair (.si .i64) (.pair (.si .i64) (.us 3 (.pair (.i .i64) (.us 20 .unit)))))
abbrev hf_91d_0 : List BF := []
abbrev X_91d_0 : Xs := (.alt (.exit 0) [] (.us 26 .unit) [] (.one .ret [4] (.us 4 (.pair .b (.us 21 .unit))) []))
abbrev S_91d_0 : Type := T ff_91d_0 × TH hf_91d_0
abbrev E_91d_0 : Type := TX X_91d_0
noncomputable def LB_91d_0 : Lps := L0
noncomputable def st_91d_0 : StepT S_91d_0 E_91d_0 := fun R v kn ko =>
 let x0 : List Int := v.1.1
 let x1 : Int := v.1.2.2.1
 let x2 : Nat := (Int.toNat x1)
 let x3 : List Int := v.1.2.1
 bif (decide (x1 < (((List.length x0) : Nat) : Int))) then
 bif (decide (((0:Int) ≤ x1) ∧ (x1 < (((List.length x0) : Nat) : Int)))) then
 bif (decide (((0:Int) ≤ x1) ∧ (x1 < (((List.length x3) : Nat) : Int)))) then
 bif ((List.getD x0 x2 (0:Int)) != (List.getD x3 x2 (0:Int))) then
 (ko (Sum.inr ((false, ()), ())))
 else
 (kn (((List.take (List.length x0) x0), ((List.take (List.length x3) x3), ((IntKind.wrap .i64 (x1 + (1:Int))), ()))), ()))
 else
 none
 else
 none
 else
 (ko (Sum.inl ((), ())))
noncomputable def ls_91d_0 : St → LTr := (lsum ff_91d_0 hf_91d_0 X_91d_0 Prod.mk id st_91d_0 (hd [] [] [0, 1, 5] 0))
theorem lp_91d_0 : LoopOk PR 0 (lpN f_91d 0) ls_91d_0 := loopT okO_91d mixed (L := LB_91d_0) (d := 1) (bs := []) (ks := [0, 1, 5]) (loopsL (l := []) (by kernel_rfl) trivial) (by kernel_rfl) (inS := Prod.mk) (outS := id) (fun _ _ => rfl) (inX := id) (outX := id) (fun _ => rfl) (fun v R kn ko => by kernel_rfl) (hd_wk [] [] [0, 1, 5] 0)
noncomputable def L_91d : Lps := (lpB 5 (.by_ ls_91d_0) L0)
noncomputable def F_91d (a0 : List Int) (a1 : List Int) : Option (Bool) :=
 bif ((((List.length a0) : Nat) : Int) != (((List.length a1) : Nat) : Int)) then
 (some false)
 else
 ((lim st_91d_0 (((List.take (List.length a0) a0), ((List.take (List.length a1) a1), ((0:Int), ()))), ()))).bind fun r0 =>
 els (fun l1 =>
 (some true)) (fun r2 =>
 (some r2.1.1)) r0
noncomputable def G_91d : T fa_91d → TH hN0 → Option (Bool) := fun x y => F_91d x.1 x.2.1
noncomputable def c_91d : Orc := ent i_91d [] 0 (sp fa_91d hN0 fr_91d hN0 G_91d (outN fr_91d))
theorem ok_91d : OrcOk PR c_91d := fnT okO_91d mixed p_91d (by kernel_rfl) (by kernel_rfl) (L := L_91d) (kp := false) (by kernel_rfl) (inn := (innN fr_91d)) (out := (outN fr_91d)) (fun _ _ => rfl) (loopsL (l := [((lpN f_91d 0), ls_91d_0)]) (by kernel_rfl) ⟨lp_91d_0, trivial⟩) (fun x y => by kernel_rfl)
noncomputable def O_9e : Orc := c_91d
theorem okO_9e : OrcOk PR O_9e := ok_91d
abbrev fa_9e : Fm := (.pair (.agg (.pair (.si .i64) (.pair (.i .i64) (.pair (.i .i64) (.pair (.i .i64) (.pair (.i .i64) (.pair (.i .i64) (.pair (.i .u32) (.pair (.i .u32) (.pair (.i .u32) (.pair (.i .u32) (.pair (.i .u32) (.pair (.i .u32) (.pair (.i .i64) (.pair (.i .i64) (.pair (.i .i64) (.pair (.i .i64) (.pair (.i .u64) (.pair (.i .u32) (.pair .b (.pair (.i .i64) (.pair (.i .i64) (.pair (.i .i64) (.pair (.i .i64) (.pair (.i .i64) (.pair (.i .i64) (.pair (.i .i64) .unit))))))))))))))))))))))))))) (.pair (.agg (.pair (.si .i64) (.pair (.i .i64) (.pair (.i .i64) (.pair (.i .i64) (.pair (.i .i64) (.pair (.i .i64) (.pair (.i .u32) (.pair (.i .u32) (.pair (.i .u32) (.pair (.i .u32) (.pair (.i .u32) (.pair (.i .u32) (.pair (.i .i64) (.pair (.i .i64) (.pair (.i .i64) (.pair (.i .i64) (.pair (.i .u64) (.pair (.i .u32) (.pair .b (.pair (.i .i64) (.pair (.i .i64) (.pair (.i .i64) (.pair (.i .i64) (.pair (.i .i64) (.pair (.i .i64) (.pair (.i .i64) .unit))))))))))))))))))))))))))) .unit))
abbrev fr_9e : Fm := .b
noncomputable def F_9e (a0 : List Int × Int × Int × Int × Int × Int × Int × Int × Int × Int × Int × Int × Int × Int × Int × Int × Int × Int × Bool × Int × Int × Int × Int × Int × Int × Int × Unit) (a1 : List Int × Int × Int × Int × Int × Int × Int × Int × Int × Int × Int × Int × Int × Int × Int × Int × Int × Int × Bool × Int × Int × Int × Int × Int × Int × Int × Unit) : Option (Bool) :=
 let x0 : Int := a0.2.2.1
 let x1 : Int := a1.2.2.1
 let x2 : Int := a0.2.2.2.1
 let x3 : Int := a1.2.2.2.1
 let x4 : Int := a0.2.2.2.2.1
 let x5 : Int := a1.2.2.2.2.1
 let x6 : Int := a0.2.2.2.2.2.1
 let x7 : Int := a1.2.2.2.2.2.1
 let x8 : Int := a0.2.2.2.2.2.2.1
 let x9 : Int := a1.2.2.2.2.2.2.1
 let x10 : Int := a0.2.2.2.2.2.2.2.1
 let x11 : Int := a1.2.2.2.2.2.2.2.1
 let x12 : Int := a0.2.2.2.2.2.2.2.2.1
 let x13 : Int := a1.2.2.2.2.2.2.2.2.1
 let x14 : Int := a0.2.2.2.2.2.2.2.2.2.1
 let x15 : Int := a1.2.2.2.2.2.2.2.2.2.1
 let x16 : Int := a0.2.2.2.2.2.2.2.2.2.2.1
 let x17 : Int := a1.2.2.2.2.2.2.2.2.2.2.1
 let x18 : Int := a0.2.2.2.2.2.2.2.2.2.2.2.1
 let x19 : Int := a1.2.2.2.2.2.2.2.2.2.2.2.1
 let x20 : Int := a0.2.2.2.2.2.2.2.2.2.2.2.2.1
 let x21 : Int := a1.2.2.2.2.2.2.2.2.2.2.2.2.1
 let x22 : Int := a0.2.2.2.2.2.2.2.2.2.2.2.2.2.1
 let x23 : Int := a1.2.2.2.2.2.2.2.2.2.2.2.2.2.1
 let x24 : Int := a0.2.2.2.2.2.2.2.2.2.2.2.2.2.2.1
 let x25 : Int := a1.2.2.2.2.2.2.2.2.2.2.2.2.2.2.1
 let x26 : Int := a0.2.2.2.2.2.2.2.2.2.2.2.2.2.2.2.1
 let x27 : Int := a1.2.2.2.2.2.2.2.2.2.2.2.2.2.2.2.1
 let x28 : Int := a0.2.2.2.2.2.2.2.2.2.2.2.2.2.2.2.2.1
 let x29 : Int := a1.2.2.2.2.2.2.2.2.2.2.2.2.2.2.2.2.1
 let x30 : Int := a0.2.2.2.2.2.2.2.2.2.2.2.2.2.2.2.2.2.1
 let x31 : Int := a1.2.2.2.2.2.2.2.2.2.2.2.2.2.2.2.2.2.1
 let x32 : Bool := a0.2.2.2.2.2.2.2.2.2.2.2.2.2.2.2.2.2.2.1
 let x33 : Bool := a1.2.2.2.2.2.2.2.2.2.2.2.2.2.2.2.2.2.2.1
 let x34 : Int := a0.2.2.2.2.2.2.2.2.2.2.2.2.2.2.2.2.2.2.2.1
 let x35 : Int := a1.2.2.2.2.2.2.2.2.2.2.2.2.2.2.2.2.2.2.2.1
 let x36 : Int := a0.2.2.2.2.2.2.2.2.2.2.2.2.2.2.2.2.2.2.2.2.1
 let x37 : Int := a1.2.2.2.2.2.2.2.2.2.2.2.2.2.2.2.2.2.2.2.2.1
 let x38 : Int := a0.2.2.2.2.2.2.2.2.2.2.2.2.2.2.2.2.2.2.2.2.2.1
 let x39 : Int := a1.2.2.2.2.2.2.2.2.2.2.2.2.2.2.2.2.2.2.2.2.2.1
 let x40 : Int := a0.2.2.2.2.2.2.2.2.2.2.2.2.2.2.2.2.2.2.2.2.2.2.1
 let x41 : Int := a1.2.2.2.2.2.2.2.2.2.2.2.2.2.2.2.2.2.2.2.2.2.2.1
 let x42 : Int := a0.2.2.2.2.2.2.2.2.2.2.2.2.2.2.2.2.2.2.2.2.2.2.2.1
 let x43 : Int := a1.2.2.2.2.2.2.2.2.2.2.2.2.2.2.2.2.2.2.2.2.2.2.2.1
 let x44 : Int := a0.2.2.2.2.2.2.2.2.2.2.2.2.2.2.2.2.2.2.2.2.2.2.2.2.1
 let x45 : Int := a1.2.2.2.2.2.2.2.2.2.2.2.2.2.2.2.2.2.2.2.2.2.2.2.2.1
 let x46 : Int := a0.2.2.2.2.2.2.2.2.2.2.2.2.2.2.2.2.2.2.2.2.2.2.2.2.2.1
 let x47 : Int := a1.2.2.2.2.2.2.2.2.2.2.2.2.2.2.2.2.2.2.2.2.2.2.2.2.2.1
 ((F_91d (List.take (List.length a0.1) a0.1) (List.take (List.length a1.1) a1.1))).bind fun r48 =>
 bif r48 then
 bif (a0.2.1 == a1.2.1) then
 bif (x0 == x1) then
 bif (x2 == x3) then
 bif (x4 == x5) then
 bif (x6 == x7) then
 bif (x8 == x9) then
 bif (x10 == x11) then
 bif (x12 == x13) then
 bif (x14 == x15) then
 bif (x16 == x17) then
 bif (x18 == x19) then
 bif (x20 == x21) then
 bif (x22 == x23) then
 bif (x24 == x25) then
 bif (x26 == x27) then
 bif (x28 == x29) then
 bif (x30 == x31) then
 bif (x32 == x33) then
 bif (x34 == x35) then
 bif (x36 == x37) then
 bif (x38 == x39) then
 bif (x40 == x41) then
 bif (x42 == x43) then
 bif (x44 == x45) then
 (some (x46 == x47))
 else
 (some false)
 else
 (some false)
 else
 (some false)
 else
 (some false)
 else
 (some false)
 else
 (some false)
 else
 (some false)
 else
 (some false)
 else
 (some false)
 else
 (some false)
 else
 (some false)
 else
 (some false)
 else
 (some false)
 else
 (some false)
 else
 (some false)
 else
 (some false)
 else
 (some false)
 else
 (some false)
 else
 (some false)
 else
 (some false)
 else
 (some false)
 else
 (some false)
 else
 (some false)
 else
 (some false)
 else
 (some false)
noncomputable def G_9e : T fa_9e → TH hN0 → Option (Bool) := fun x y => F_9e x.1 x.2.1
noncomputable def c_9e : Orc := ent i_9e [] 0 (sp fa_9e hN0 fr_9e hN0 G_9e (outN fr_9e))
theorem ok_9e : OrcOk PR c_9e := fnT okO_9e mixed p_9e (by kernel_rfl) (by kernel_rfl) (L := L0) (kp := false) (by kernel_rfl) (inn := (innN fr_9e)) (out := (outN fr_9e)) (fun _ _ => rfl) (loopsL (l := []) (by kernel_rfl) trivial) (fun x y => by kernel_rfl)
noncomputable def O_91e : Orc := orn
theorem okO_91e : OrcOk PR O_91e := (orn_ok _)
abbrev fa_91e : Fm := (.pair (.si .i64) (.pair (.si .i64) .unit))
abbrev fr_91e : Fm := .b
abbrev ff_91e_0 : Fm := (.pair (.si .i64) (.pair (.si .i64) (.us 10 (.pair (.i .i64) (.pair (.i .i64) (.us 12 .unit))))))
abbrev hf_91e_0 : List BF := []
abbrev X_91e_0 : Xs := (.alt (.exit 0) [] (.us 26 .unit) [] (.one .ret [4] (.us 4 (.pair .b (.us 21 .unit))) []))
abbrev S_91e_0 : Type := T ff_91e_0 × TH hf_91e_0
abbrev E_91e_0 : Type := TX X_91e_0
noncomputable def LB_91e_0 : Lps := L0
noncomputable def st_91e_0 : StepT S_91e_0 E_91e_0 := fun R v kn ko =>
 let x0 : List Int := v.1.1
 let x1 : Int := v.1.2.2.2.1
 let x2 : Nat := (Int.toNat x1)
 let x3 : List Int := v.1.2.1
 bif (decide (x1 < v.1.2.2.1)) then
 bif (decide (((0:Int) ≤ x1) ∧ (x1 < (((List.length x0) : Nat) : Int)))) then
 bif (decide (((0:Int) ≤ x1) ∧ (x1 < (((List.length x3) : Nat) : Int)))) then
 bif ((List.getD x0 x2 (0:Int)) != (List.getD x3 x2 (0:Int))) then
 (ko (Sum.inr ((false, ()), ())))
 else
 (kn (((List.take (List.length x0) x0), ((List.take (List.length x3) x3), (v.1.2.2.1, ((IntKind.wrap .i64 (x1 + (1:Int))), ())))), ()))
 else
 none
 else
 none
 else
 (ko (Sum.inl ((), ())))
noncomputable def ls_91e_0 : St → LTr := (lsum ff_91e_0 hf_91e_0 X_91e_0 Prod.mk id st_91e_0 (hd [] [] [0, 1, 12, 13] 0))
theorem lp_91e_0 : LoopOk PR 0 (lpN f_91e 0) ls_91e_0 := loopT okO_91e mixed (L := LB_91e_0) (d := 1) (bs := []) (ks := [0, 1, 12, 13]) (loopsL (l := []) (by kernel_rfl) trivial) (by kernel_rfl) (inS := Prod.mk) (outS := id) (fun _ _ => rfl) (inX := id) (outX := id) (fun _ => rfl) (fun v R kn ko => by kernel_rfl) (hd_wk [] [] [0, 1, 12, 13] 0)
noncomputable def L_91e : Lps := (lpB 5 (.by_ ls_91e_0) L0)
noncomputable def F_91e (a0 : List Int) (a1 : List Int) : Option (Bool) :=
 bif ((((List.length a0) : Nat) : Int) != (((List.length a1) : Nat) : Int)) then
 (some false)
 else
 ((lim st_91e_0 (((List.take (List.length a0) a0), ((List.take (List.length a1) a1), ((((List.length a0) : Nat) : Int), ((0:Int), ())))), ()))).bind fun r0 =>
 els (fun l1 =>
 (some true)) (fun r2 =>
 (some r2.1.1)) r0
noncomputable def G_91e : T fa_91e → TH hN0 → Option (Bool) := fun x y => F_91e x.1 x.2.1
noncomputable def c_91e : Orc := ent i_91e [] 0 (sp fa_91e hN0 fr_91e hN0 G_91e (outN fr_91e))
theorem ok_91e : OrcOk PR c_91e := fnT okO_91e mixed p_91e (by kernel_rfl) (by kernel_rfl) (L := L_91e) (kp := false) (by kernel_rfl) (inn := (innN fr_91e)) (out := (outN fr_91e)) (fun _ _ => rfl) (loopsL (l := [((lpN f_91e 0), ls_91e_0)]) (by kernel_rfl) ⟨lp_91e_0, trivial⟩) (fun x y => by kernel_rfl)
noncomputable def O_91f : Orc := orn
theorem okO_91f : OrcOk PR O_91f := (orn_ok _)
abbrev fa_91f : Fm := (.pair (.agg (.pair (.si .i64) (.pair (.i .i64) (.pair (.i .i64) (.pair (.i .i64) (.pair (.i .i64) (.pair (.i .i64) (.pair (.i .u32) (.pair (.i .u32) (.pair (.i .u32) (.pair (.i .u32) (.pair (.i .u32) (.pair (.i .u32) (.pair (.i .i64) (.pair (.i .i64) (.pair (.i .i64) (.pair (.i .i64) (.pair (.i .u64) (.pair (.i .u32) (.pair .b (.pair (.i .i64) (.pair (.i .i64) (.pair (.i .i64) (.pair (.i .i64) (.pair (.i .i64) (.pair (.i .i64) (.pair (.i .i64) .unit))))))))))))))))))))))))))) .unit)
abbrev fr_91f : Fm := (.agg (.pair (.rep 5 (.i .i64)) (.pair (.rep 7 (.i .u32)) (.pair (.rep 4 (.i .i64)) (.pair (.rep 7 (.i .i64)) (.pair (.i .u64) (.pair .b .unit)))))))
noncomputable def F_91f (a0 : List Int × Int × Int × Int × Int × Int × Int × Int × Int × Int × Int × Int × Int × Int × Int × Int × Int × Int × Bool × Int × Int × Int × Int × Int × Int × Int × Unit) : Option (List (Int) × List (Int) × List (Int) × List (Int) × Int × Bool × Unit) :=
 let x0 : Int := a0.2.2.1
 let x1 : Int := a0.2.2.2.1
 let x2 : Int := a0.2.2.2.2.1
 let x3 : Int := a0.2.2.2.2.2.1
 let x4 : Int := a0.2.2.2.2.2.2.1
 let x5 : Int := a0.2.2.2.2.2.2.2.1
 let x6 : Int := a0.2.2.2.2.2.2.2.2.1
 let x7 : Int := a0.2.2.2.2.2.2.2.2.2.1
 let x8 : Int := a0.2.2.2.2.2.2.2.2.2.2.1
 let x9 : Int := a0.2.2.2.2.2.2.2.2.2.2.2.1
 let x10 : Int := a0.2.2.2.2.2.2.2.2.2.2.2.2.2.2.2.2.2.1
 let x11 : Int := a0.2.2.2.2.2.2.2.2.2.2.2.2.1
 let x12 : Int := a0.2.2.2.2.2.2.2.2.2.2.2.2.2.1
 let x13 : Int := a0.2.2.2.2.2.2.2.2.2.2.2.2.2.2.1
 let x14 : Int := a0.2.2.2.2.2.2.2.2.2.2.2.2.2.2.2.1
 let x15 : Int := a0.2.2.2.2.2.2.2.2.2.2.2.2.2.2.2.2.2.2.2.1
 let x16 : Int := a0.2.2.2.2.2.2.2.2.2.2.2.2.2.2.2.2.2.2.2.2.1
 let x17 : Int := a0.2.2.2.2.2.2.2.2.2.2.2.2.2.2.2.2.2.2.2.2.2.1
 let x18 : Int := a0.2.2.2.2.2.2.2.2.2.2.2.2.2.2.2.2.2.2.2.2.2.2.1
 let x19 : Int := a0.2.2.2.2.2.2.2.2.2.2.2.2.2.2.2.2.2.2.2.2.2.2.2.1
 let x20 : Int := a0.2.2.2.2.2.2.2.2.2.2.2.2.2.2.2.2.2.2.2.2.2.2.2.2.1
 let x21 : Int := a0.2.2.2.2.2.2.2.2.2.2.2.2.2.2.2.2.2.2.2.2.2.2.2.2.2.1
 let x22 : Int := a0.2.2.2.2.2.2.2.2.2.2.2.2.2.2.2.2.1
 let x23 : Bool := a0.2.2.2.2.2.2.2.2.2.2.2.2.2.2.2.2.2.2.1
 (some ([a0.2.1, x0, x1, x2, x3], ([x4, x5, x6, x7, x8, x9, x10], ([x11, x12, x13, x14], ([x15, x16, x17, x18, x19, x20, x21], (x22, (x23, ())))))))
noncomputable def G_91f : T fa_91f → TH hN0 → Option (List (Int) × List (Int) × List (Int) × List (Int) × Int × Bool × Unit) := fun x y => F_91f x.1
noncomputable def c_91f : Orc := ent i_91f [] 0 (sp fa_91f hN0 fr_91f hN0 G_91f (outN fr_91f))
theorem ok_91f : OrcOk PR c_91f := fnT okO_91f mixed p_91f (by kernel_rfl) (by kernel_rfl) (L := L0) (kp := false) (by kernel_rfl) (inn := (innN fr_91f)) (out := (outN fr_91f)) (fun _ _ => rfl) (loopsL (l := []) (by kernel_rfl) trivial) (fun x y => by kernel_rfl)
noncomputable def O_9f : Orc := (orm c_91e c_91f)
theorem okO_9f : OrcOk PR O_9f := (orm_ok ok_91e ok_91f)
abbrev fa_9f : Fm := (.pair (.agg (.pair (.si .i64) (.pair (.i .i64) (.pair (.i .i64) (.pair (.i .i64) (.pair (.i .i64) (.pair (.i .i64) (.pair (.i .u32) (.pair (.i .u32) (.pair (.i .u32) (.pair (.i .u32) (.pair (.i .u32) (.pair (.i .u32) (.pair (.i .i64) (.pair (.i .i64) (.pair (.i .i64) (.pair (.i .i64) (.pair (.i .u64) (.pair (.i .u32) (.pair .b (.pair (.i .i64) (.pair (.i .i64) (.pair (.i .i64) (.pair (.i .i64) (.pair (.i .i64) (.pair (.i .i64) (.pair (.i .i64) .unit))))))))))))))))))))))))))) (.pair (.agg (.pair (.si .i64) (.pair (.i .i64) (.pair (.i .i64) (.pair (.i .i64) (.pair (.i .i64) (.pair (.i .i64) (.pair (.i .u32) (.pair (.i .u32) (.pair (.i .u32) (.pair (.i .u32) (.pair (.i .u32) (.pair (.i .u32) (.pair (.i .i64) (.pair (.i .i64) (.pair (.i .i64) (.pair (.i .i64) (.pair (.i .u64) (.pair (.i .u32) (.pair .b (.pair (.i .i64) (.pair (.i .i64) (.pair (.i .i64) (.pair (.i .i64) (.pair (.i .i64) (.pair (.i .i64) (.pair (.i .i64) .unit))))))))))))))))))))))))))) .unit))
abbrev fr_9f : Fm := .b
noncomputable def F_9f (a0 : List Int × Int × Int × Int × Int × Int × Int × Int × Int × Int × Int × Int × Int × Int × Int × Int × Int × Int × Bool × Int × Int × Int × Int × Int × Int × Int × Unit) (a1 : List Int × Int × Int × Int × Int × Int × Int × Int × Int × Int × Int × Int × Int × Int × Int × Int × Int × Int × Bool × Int × Int × Int × Int × Int × Int × Int × Unit) : Option (Bool) :=
 let x0 : Int := a0.2.2.1
 let x1 : Int := a0.2.2.2.1
 let x2 : Int := a0.2.2.2.2.1
 let x3 : Int := a0.2.2.2.2.2.1
 let x4 : List Int := [a0.2.1, x0, x1, x2, x3]
 let x5 : Int := a1.2.2.1
 let x6 : Int := a1.2.2.2.1
 let x7 : Int := a1.2.2.2.2.1
 let x8 : Int := a1.2.2.2.2.2.1
 let x9 : List Int := [a1.2.1, x5, x6, x7, x8]
 let x10 : Int := a0.2.2.2.2.2.2.1
 let x11 : Int := a0.2.2.2.2.2.2.2.1
 let x12 : Int := a0.2.2.2.2.2.2.2.2.1
 let x13 : Int := a0.2.2.2.2.2.2.2.2.2.1
 let x14 : Int := a0.2.2.2.2.2.2.2.2.2.2.1
 let x15 : Int := a0.2.2.2.2.2.2.2.2.2.2.2.1
 let x16 : Int := a0.2.2.2.2.2.2.2.2.2.2.2.2.2.2.2.2.2.1
 let x17 : List Int := [x10, x11, x12, x13, x14, x15, x16]
 let x18 : Int := a1.2.2.2.2.2.2.1
 let x19 : Int := a1.2.2.2.2.2.2.2.1
 let x20 : Int := a1.2.2.2.2.2.2.2.2.1
 let x21 : Int := a1.2.2.2.2.2.2.2.2.2.1
 let x22 : Int := a1.2.2.2.2.2.2.2.2.2.2.1
 let x23 : Int := a1.2.2.2.2.2.2.2.2.2.2.2.1
 let x24 : Int := a1.2.2.2.2.2.2.2.2.2.2.2.2.2.2.2.2.2.1
 let x25 : List Int := [x18, x19, x20, x21, x22, x23, x24]
 let x26 : Int := a0.2.2.2.2.2.2.2.2.2.2.2.2.1
 let x27 : Int := a0.2.2.2.2.2.2.2.2.2.2.2.2.2.1
 let x28 : Int := a0.2.2.2.2.2.2.2.2.2.2.2.2.2.2.1
 let x29 : Int := a0.2.2.2.2.2.2.2.2.2.2.2.2.2.2.2.1
 let x30 : List Int := [x26, x27, x28, x29]
 let x31 : Int := a1.2.2.2.2.2.2.2.2.2.2.2.2.1
 let x32 : Int := a1.2.2.2.2.2.2.2.2.2.2.2.2.2.1
 let x33 : Int := a1.2.2.2.2.2.2.2.2.2.2.2.2.2.2.1
 let x34 : Int := a1.2.2.2.2.2.2.2.2.2.2.2.2.2.2.2.1
 let x35 : List Int := [x31, x32, x33, x34]
 let x36 : Int := a0.2.2.2.2.2.2.2.2.2.2.2.2.2.2.2.2.2.2.2.1
 let x37 : Int := a0.2.2.2.2.2.2.2.2.2.2.2.2.2.2.2.2.2.2.2.2.1
 let x38 : Int := a0.2.2.2.2.2.2.2.2.2.2.2.2.2.2.2.2.2.2.2.2.2.1
 let x39 : Int := a0.2.2.2.2.2.2.2.2.2.2.2.2.2.2.2.2.2.2.2.2.2.2.1
 let x40 : Int := a0.2.2.2.2.2.2.2.2.2.2.2.2.2.2.2.2.2.2.2.2.2.2.2.1
 let x41 : Int := a0.2.2.2.2.2.2.2.2.2.2.2.2.2.2.2.2.2.2.2.2.2.2.2.2.1
 let x42 : Int := a0.2.2.2.2.2.2.2.2.2.2.2.2.2.2.2.2.2.2.2.2.2.2.2.2.2.1
 let x43 : List Int := [x36, x37, x38, x39, x40, x41, x42]
 let x44 : Int := a1.2.2.2.2.2.2.2.2.2.2.2.2.2.2.2.2.2.2.2.1
 let x45 : Int := a1.2.2.2.2.2.2.2.2.2.2.2.2.2.2.2.2.2.2.2.2.1
 let x46 : Int := a1.2.2.2.2.2.2.2.2.2.2.2.2.2.2.2.2.2.2.2.2.2.1
 let x47 : Int := a1.2.2.2.2.2.2.2.2.2.2.2.2.2.2.2.2.2.2.2.2.2.2.1
 let x48 : Int := a1.2.2.2.2.2.2.2.2.2.2.2.2.2.2.2.2.2.2.2.2.2.2.2.1
 let x49 : Int := a1.2.2.2.2.2.2.2.2.2.2.2.2.2.2.2.2.2.2.2.2.2.2.2.2.1
 let x50 : Int := a1.2.2.2.2.2.2.2.2.2.2.2.2.2.2.2.2.2.2.2.2.2.2.2.2.2.1
 let x51 : List Int := [x44, x45, x46, x47, x48, x49, x50]
 let x52 : Int := a0.2.2.2.2.2.2.2.2.2.2.2.2.2.2.2.2.1
 let x53 : Int := a1.2.2.2.2.2.2.2.2.2.2.2.2.2.2.2.2.1
 let x54 : Bool := a0.2.2.2.2.2.2.2.2.2.2.2.2.2.2.2.2.2.2.1
 let x55 : Bool := a1.2.2.2.2.2.2.2.2.2.2.2.2.2.2.2.2.2.2.1
 ((F_91e (List.take (List.length a0.1) a0.1) (List.take (List.length a1.1) a1.1))).bind fun r56 =>
 bif r56 then
 (some ((((List.getD x4 (0:Nat) (0:Int)) == (List.getD x9 (0:Nat) (0:Int))) && (((List.getD x4 (1:Nat) (0:Int)) == (List.getD x9 (1:Nat) (0:Int))) && (((List.getD x4 (2:Nat) (0:Int)) == (List.getD x9 (2:Nat) (0:Int))) && (((List.getD x4 (3:Nat) (0:Int)) == (List.getD x9 (3:Nat) (0:Int))) && (((List.getD x4 (4:Nat) (0:Int)) == (List.getD x9 (4:Nat) (0:Int))) && true))))) && ((((List.getD x17 (0:Nat) (0:Int)) == (List.getD x25 (0:Nat) (0:Int))) && (((List.getD x17 (1:Nat) (0:Int)) == (List.getD x25 (1:Nat) (0:Int))) && (((List.getD x17 (2:Nat) (0:Int)) == (List.getD x25 (2:Nat) (0:Int))) && (((List.getD x17 (3:Nat) (0:Int)) == (List.getD x25 (3:Nat) (0:Int))) && (((List.getD x17 (4:Nat) (0:Int)) == (List.getD x25 (4:Nat) (0:Int))) && (((List.getD x17 (5:Nat) (0:Int)) == (List.getD x25 (5:Nat) (0:Int))) && (((List.getD x17 (6:Nat) (0:Int)) == (List.getD x25 (6:Nat) (0:Int))) && true))))))) && ((((List.getD x30 (0:Nat) (0:Int)) == (List.getD x35 (0:Nat) (0:Int))) && (((List.getD x30 (1:Nat) (0:Int)) == (List.getD x35 (1:Nat) (0:Int))) && (((List.getD x30 (2:Nat) (0:Int)) == (List.getD x35 (2:Nat) (0:Int))) && (((List.getD x30 (3:Nat) (0:Int)) == (List.getD x35 (3:Nat) (0:Int))) && true)))) && ((((List.getD x43 (0:Nat) (0:Int)) == (List.getD x51 (0:Nat) (0:Int))) && (((List.getD x43 (1:Nat) (0:Int)) == (List.getD x51 (1:Nat) (0:Int))) && (((List.getD x43 (2:Nat) (0:Int)) == (List.getD x51 (2:Nat) (0:Int))) && (((List.getD x43 (3:Nat) (0:Int)) == (List.getD x51 (3:Nat) (0:Int))) && (((List.getD x43 (4:Nat) (0:Int)) == (List.getD x51 (4:Nat) (0:Int))) && (((List.getD x43 (5:Nat) (0:Int)) == (List.getD x51 (5:Nat) (0:Int))) && (((List.getD x43 (6:Nat) (0:Int)) == (List.getD x51 (6:Nat) (0:Int))) && true))))))) && ((x52 == x53) && ((x54 == x55) && true)))))))
 else
 (some false)
noncomputable def G_9f : T fa_9f → TH hN0 → Option (Bool) := fun x y => F_9f x.1 x.2.1
noncomputable def c_9f : Orc := ent i_9f [] 0 (sp fa_9f hN0 fr_9f hN0 G_9f (outN fr_9f))
theorem ok_9f : OrcOk PR c_9f := fnT okO_9f mixed p_9f (by kernel_rfl) (by kernel_rfl) (L := L0) (kp := false) (by kernel_rfl) (inn := (innN fr_9f)) (out := (outN fr_9f)) (fun _ _ => rfl) (loopsL (l := []) (by kernel_rfl) trivial) (fun x y => by kernel_rfl)
theorem ints_ext {a b : List Int} (hl : a.length = b.length) (h : ∀ j, j < a.length → a.getD j 0 = b.getD j 0) : a = b := by
  apply List.ext_getElem hl
  intro i h1 h2
  have := h i h1
  rwa [List.getD_eq_getElem?_getD, List.getD_eq_getElem?_getD, List.getElem?_eq_getElem h1, List.getElem?_eq_getElem h2] at this
theorem hints_eq {a b : List Int} (hL : a.length ≤ 1073741824) : F_91d a b = some (decide (a = b)) := by
  unfold F_91d
  rw [bif_ne]
  by_cases hl : a.length = b.length
  case neg => rw [if_neg (by omega)]; exact some_f fun k => hl (by rw [k])
  rw [if_pos (by omega)]
  simp only [List.take_length]
  have step : ∀ i, i < a.length → a.getD i 0 = b.getD i 0 → ∀ (R : Type) (kn ko), st_91d_0 R ((a, (b, ((i : Int), ()))), ()) kn ko = kn ((a, (b, (((i + 1 : Nat) : Int), ()))), ()) := fun i hi he R kn ko => by
    have w1 : IntKind.i64.wrap ((i : Int) + 1) = ((i + 1 : Nat) : Int) := by rw [wi64 (by omega)]; omega
    have hi' : i < b.length := by omega
    simp only [st_91d_0, ltI hi, ltI hi', natnn, and_self, decide_true, cond_true, List.take_length, Int.toNat_natCast, w1, he, bne_self_eq_false, cond_false]
  rcases least_bad (P := fun j => a.getD j 0 = b.getD j 0) a.length with h | ⟨k, h1, h2, h3⟩
  · have := lim_seq (st := st_91d_0) (fun i => ((a, (b, ((i : Int), ()))), ())) (b := Sum.inl ((), ())) a.length (fun i hi R kn ko => step i hi (h i hi) R kn ko) (fun R kn ko => by
      simp only [st_91d_0, ltI', decide_false, cond_false])
    simp only [Int.natCast_zero] at this
    rw [this]
    exact some_t (ints_ext hl h)
  · have := lim_seq (st := st_91d_0) (fun i => ((a, (b, ((i : Int), ()))), ())) (b := Sum.inr ((false, ()), ())) k (fun i hi R kn ko => step i (by omega) (h3 i hi) R kn ko) (fun R kn ko => by
      have hi' : k < b.length := by omega
      have hn : (a.getD k 0 != b.getD k 0) = true := by simpa using h2
      simp only [st_91d_0, ltI h1, ltI hi', natnn, and_self, decide_true, cond_true, Int.toNat_natCast, hn])
    simp only [Int.natCast_zero] at this
    rw [this]
    exact some_f fun k => h2 (by rw [k])
theorem equal_eq {a b : List Int} (hL : a.length ≤ 1073741824) : F_91e a b = some (decide (a = b)) := by
  unfold F_91e
  rw [bif_ne]
  by_cases hl : a.length = b.length
  case neg => rw [if_neg (by omega)]; exact some_f fun k => hl (by rw [k])
  rw [if_pos (by omega)]
  simp only [List.take_length]
  have step : ∀ i, i < a.length → a.getD i 0 = b.getD i 0 → ∀ (R : Type) (kn ko), st_91e_0 R ((a, (b, ((a.length : Int), ((i : Int), ())))), ()) kn ko = kn ((a, (b, ((a.length : Int), (((i + 1 : Nat) : Int), ())))), ()) := fun i hi he R kn ko => by
    have w1 : IntKind.i64.wrap ((i : Int) + 1) = ((i + 1 : Nat) : Int) := by rw [wi64 (by omega)]; omega
    have hi' : i < b.length := by omega
    simp only [st_91e_0, ltI hi, ltI hi', natnn, and_self, decide_true, cond_true, List.take_length, Int.toNat_natCast, w1, he, bne_self_eq_false, cond_false]
  rcases least_bad (P := fun j => a.getD j 0 = b.getD j 0) a.length with h | ⟨k, h1, h2, h3⟩
  · have := lim_seq (st := st_91e_0) (fun i => ((a, (b, ((a.length : Int), ((i : Int), ())))), ())) (b := Sum.inl ((), ())) a.length (fun i hi R kn ko => step i hi (h i hi) R kn ko) (fun R kn ko => by
      simp only [st_91e_0, ltI', decide_false, cond_false])
    simp only [Int.natCast_zero] at this
    rw [this]
    exact some_t (ints_ext hl h)
  · have := lim_seq (st := st_91e_0) (fun i => ((a, (b, ((a.length : Int), ((i : Int), ())))), ())) (b := Sum.inr ((false, ()), ())) k (fun i hi R kn ko => step i (by omega) (h3 i hi) R kn ko) (fun R kn ko => by
      have hi' : k < b.length := by omega
      have hn : (a.getD k 0 != b.getD k 0) = true := by simpa using h2
      simp only [st_91e_0, ltI h1, ltI hi', natnn, and_self, decide_true, cond_true, Int.toNat_natCast, hn])
    simp only [Int.natCast_zero] at this
    rw [this]
    exact some_f fun k => h2 (by rw [k])
theorem bif_band {a b : Bool} : (bif a then some b else some false) = some (a && b) := by cases a <;> rfl
noncomputable instance (c d : CfgT) : Decidable (c = d) := Classical.propDecidable _
theorem hcfg_eq (c d : CfgT) (hL : c.w.length ≤ 1073741824) : F_9e c d = some (decide (c = d)) := by
  unfold F_9e
  simp only [List.take_length, hints_eq hL, Option.bind_some, bif_band]
  obtain ⟨w, f, act, loss, opt, sched, rate, mu, beta, eps, decay, clip, warm, total, batch, accum, seed, drop, chance, log, mi, ma, bk, gr, itv, save, _⟩ := c
  obtain ⟨w', f', act', loss', opt', sched', rate', mu', beta', eps', decay', clip', warm', total', batch', accum', seed', drop', chance', log', mi', ma', bk', gr', itv', save', _⟩ := d
  refine congrArg some ?_
  rw [Bool.eq_iff_iff]
  simp only [CfgT.w, Bool.and_eq_true, decide_eq_true_eq, beq_iff_eq, Prod.mk.injEq, and_true]
theorem same_eq (c d : CfgT) (hL : c.w.length ≤ 1073741824) : F_9f c d = some (decide (c = d)) := by
  unfold F_9f
  simp only [List.take_length, equal_eq hL, Option.bind_some, bif_band]
  obtain ⟨w, f, act, loss, opt, sched, rate, mu, beta, eps, decay, clip, warm, total, batch, accum, seed, drop, chance, log, mi, ma, bk, gr, itv, save, _⟩ := c
  obtain ⟨w', f', act', loss', opt', sched', rate', mu', beta', eps', decay', clip', warm', total', batch', accum', seed', drop', chance', log', mi', ma', bk', gr', itv', save', _⟩ := d
  refine congrArg some ?_
  rw [Bool.eq_iff_iff]
  simp only [CfgT.w, Bool.and_eq_true, decide_eq_true_eq, beq_iff_eq, Prod.mk.injEq, and_true, List.getD_cons_zero, List.getD_cons_succ]
  exact ⟨fun ⟨h_w, ⟨h_f, h_act, h_loss, h_opt, h_sched⟩, ⟨h_rate, h_mu, h_beta, h_eps, h_decay, h_clip, h_drop⟩, ⟨h_warm, h_total, h_batch, h_accum⟩, ⟨h_log, h_mi, h_ma, h_bk, h_gr, h_itv, h_save⟩, h_seed, h_chance⟩ => ⟨h_w, h_f, h_act, h_loss, h_opt, h_sched, h_rate, h_mu, h_beta, h_eps, h_decay, h_clip, h_warm, h_total, h_batch, h_accum, h_seed, h_drop, h_chance, h_log, h_mi, h_ma, h_bk, h_gr, h_itv, h_save⟩, fun ⟨h_w, h_f, h_act, h_loss, h_opt, h_sched, h_rate, h_mu, h_beta, h_eps, h_decay, h_clip, h_warm, h_total, h_batch, h_accum, h_seed, h_drop, h_chance, h_log, h_mi, h_ma, h_bk, h_gr, h_itv, h_save⟩ => ⟨h_w, ⟨h_f, h_act, h_loss, h_opt, h_sched⟩, ⟨h_rate, h_mu, h_beta, h_eps, h_decay, h_clip, h_drop⟩, ⟨h_warm, h_total, h_batch, h_accum⟩, ⟨h_log, h_mi, h_ma, h_bk, h_gr, h_itv, h_save⟩, h_seed, h_chance⟩⟩
noncomputable def O_96 : Orc := orn
theorem okO_96 : OrcOk PR O_96 := (orn_ok _)
abbrev fa_96 : Fm := (.pair (.i .u8) (.pair (.i .u8) (.pair (.i .u8) (.pair (.i .u8) (.pair (.i .u64) .unit)))))
abbrev fr_96 : Fm := (.agg (.pair (.si .i64) (.pair (.i .i64) (.pair (.i .i64) (.pair (.i .i64) (.pair (.i .i64) (.pair (.i .i64) (.pair (.i .u32) (.pair (.i .u32) (.pair (.i .u32) (.pair (.i .u32) (.pair (.i .u32) (.pair (.i .u32) (.pair (.i .i64) (.pair (.i .i64) (.pair (.i .i64) (.pair (.i .i64) (.pair (.i .u64) (.pair (.i .u32) (.pair .b (.pair (.i .i64) (.pair (.i .i64) (.pair (.i .i64) (.pair (.i .i64) (.pair (.i .i64) (.pair (.i .i64) (.pair (.i .i64) .unit)))))))))))))))))))))))))))
noncomputable def F_96 (a0 : Int) (a1 : Int) (a2 : Int) (a3 : Int) (a4 : Int) : Option (List Int × Int × Int × Int × Int × Int × Int × Int × Int × Int × Int × Int × Int × Int × Int × Int × Int × Int × Bool × Int × Int × Int × Int × Int × Int × Int × Unit) :=
 let x0 : Nat := ((0:Nat) + ((Int.toNat (Int.tmod a0 (6:Int))) * (1:Nat)))
 let x1 : Int := (Int.tmod (IntKind.wrap .i64 a1) (3:Int))
 let x2 : Int := (IntKind.wrap .i64 (x1 + (Int.tmod (IntKind.wrap .i64 a0) (25:Int))))
 let x3 : Int := (IntKind.wrap .i64 ((IntKind.wrap .i64 (x2 - x1)) + (1:Int)))
 let x4 : Bool := (x3 == (0:Int))
 let x5 : Nat := ((0:Nat) + ((Int.toNat (Int.tmod a2 (4:Int))) * (1:Nat)))
 let x6 : Int := (Int.tmod (IntKind.wrap .i64 (IntKind.wrap .u8 (Int.tdiv a3 (3:Int)))) (4:Int))
 let x7 : List Int := [(2:Int), (2:Int)]
 bif (decide (((0:Int) ≤ (Int.tmod a0 (6:Int))) ∧ ((Int.tmod a0 (6:Int)) < (6:Int)))) then
 bif (Nat.beq x0 (0:Nat)) then
 bif (decide (((0:Int) ≤ (Int.tmod a2 (4:Int))) ∧ ((Int.tmod a2 (4:Int)) < (4:Int)))) then
 bif (decide (x5 < (4:Nat))) then
 bif (decide (((0:Int) ≤ (Int.tmod (IntKind.wrap .u8 (Int.tdiv a2 (4:Int))) (3:Int))) ∧ ((Int.tmod (IntKind.wrap .u8 (Int.tdiv a2 (4:Int))) (3:Int)) < (3:Int)))) then
 bif (decide (((0:Nat) + ((Int.toNat (Int.tmod (IntKind.wrap .u8 (Int.tdiv a2 (4:Int))) (3:Int))) * (1:Nat))) < (3:Nat))) then
 bif (decide (((0:Int) ≤ (Int.tmod (IntKind.wrap .u8 (Int.tdiv a2 (12:Int))) (2:Int))) ∧ ((Int.tmod (IntKind.wrap .u8 (Int.tdiv a2 (12:Int))) (2:Int)) < (2:Int)))) then
 bif (decide (((0:Nat) + ((Int.toNat (Int.tmod (IntKind.wrap .u8 (Int.tdiv a2 (12:Int))) (2:Int))) * (1:Nat))) < (2:Nat))) then
 bif (decide (((0:Int) ≤ (Int.tmod (IntKind.wrap .u8 (Int.tdiv a2 (24:Int))) (2:Int))) ∧ ((Int.tmod (IntKind.wrap .u8 (Int.tdiv a2 (24:Int))) (2:Int)) < (2:Int)))) then
 bif (decide (((0:Nat) + ((Int.toNat (Int.tmod (IntKind.wrap .u8 (Int.tdiv a2 (24:Int))) (2:Int))) * (1:Nat))) < (2:Nat))) then
 bif (decide (((0:Int) ≤ (Int.tmod (IntKind.wrap .u8 (Int.tdiv a2 (48:Int))) (2:Int))) ∧ ((Int.tmod (IntKind.wrap .u8 (Int.tdiv a2 (48:Int))) (2:Int)) < (2:Int)))) then
 bif (decide (((0:Nat) + ((Int.toNat (Int.tmod (IntKind.wrap .u8 (Int.tdiv a2 (48:Int))) (2:Int))) * (1:Nat))) < (2:Nat))) then
 bif (decide (((0:Int) ≤ (Int.tmod a3 (3:Int))) ∧ ((Int.tmod a3 (3:Int)) < (3:Int)))) then
 bif (decide (((0:Nat) + ((Int.toNat (Int.tmod a3 (3:Int))) * (1:Nat))) < (3:Nat))) then
 bif (decide (((0:Int) ≤ (Int.tmod a2 (4:Int))) ∧ ((Int.tmod a2 (4:Int)) < (4:Int)))) then
 bif (decide (x5 < (4:Nat))) then
 bif x4 then
 none
 else
 (some ([(2:Int), (3:Int)], ((Int.tmod (IntKind.wrap .i64 (IntKind.wrap .u8 (Int.tdiv a0 (6:Int)))) (3:Int)), ((Int.tmod (IntKind.wrap .i64 a1) (4:Int)), ((Int.tmod (IntKind.wrap .i64 (IntKind.wrap .u8 (Int.tdiv a1 (4:Int)))) (2:Int)), ((Int.tmod (IntKind.wrap .i64 (IntKind.wrap .u8 (Int.tdiv a1 (8:Int)))) (4:Int)), ((Int.tmod (IntKind.wrap .i64 (IntKind.wrap .u8 (Int.tdiv a1 (32:Int)))) (3:Int)), ((List.getD [(1008981770:Int), (1036831949:Int), (1065353216:Int), (981668463:Int)] x5 (0:Int)), ((List.getD [(0:Int), (1063675494:Int), (1056964608:Int)] ((0:Nat) + ((Int.toNat (Int.tmod (IntKind.wrap .u8 (Int.tdiv a2 (4:Int))) (3:Int))) * (1:Nat))) (0:Int)), ((List.getD [(1065336439:Int), (1063675494:Int)] ((0:Nat) + ((Int.toNat (Int.tmod (IntKind.wrap .u8 (Int.tdiv a2 (12:Int))) (2:Int))) * (1:Nat))) (0:Int)), ((List.getD [(841731191:Int), (981668463:Int)] ((0:Nat) + ((Int.toNat (Int.tmod (IntKind.wrap .u8 (Int.tdiv a2 (24:Int))) (2:Int))) * (1:Nat))) (0:Int)), ((List.getD [(0:Int), (1008981770:Int)] ((0:Nat) + ((Int.toNat (Int.tmod (IntKind.wrap .u8 (Int.tdiv a2 (48:Int))) (2:Int))) * (1:Nat))) (0:Int)), ((List.getD [(0:Int), (1065353216:Int), (1036831949:Int)] ((0:Nat) + ((Int.toNat (Int.tmod a3 (3:Int))) * (1:Nat))) (0:Int)), (x6, ((IntKind.wrap .i64 ((IntKind.wrap .i64 (x6 + (Int.tmod (IntKind.wrap .i64 a3) (17:Int)))) + (1:Int))), ((IntKind.wrap .i64 ((Int.tmod (IntKind.wrap .i64 (IntKind.wrap .u8 (Int.tdiv a3 (9:Int)))) (4:Int)) + (1:Int))), ((IntKind.wrap .i64 ((Int.tmod (IntKind.wrap .i64 (IntKind.wrap .u8 (Int.tdiv a3 (36:Int)))) (2:Int)) + (1:Int))), (a4, ((List.getD [(0:Int), (536870912:Int), (2147483647:Int), (0:Int)] x5 (0:Int)), (((Int.tmod a3 (5:Int)) == (0:Int)), ((IntKind.wrap .i64 (x1 + (Int.tmod (IntKind.wrap .i64 a2) x3))), (x1, (x2, ((IntKind.wrap .i64 (x1 + (1:Int))), ((IntKind.wrap .i64 ((Int.tmod (IntKind.wrap .i64 a2) (2:Int)) + (1:Int))), ((IntKind.wrap .i64 ((Int.tmod (IntKind.wrap .i64 a3) (3:Int)) + (1:Int))), ((Int.tmod (IntKind.wrap .i64 a0) (4:Int)), ())))))))))))))))))))))))))))
 else
 none
 else
 none
 else
 none
 else
 none
 else
 none
 else
 none
 else
 none
 else
 none
 else
 none
 else
 none
 else
 none
 else
 none
 else
 none
 else
 none
 else
 bif (Nat.beq x0 (1:Nat)) then
 bif (decide (((0:Int) ≤ (Int.tmod a2 (4:Int))) ∧ ((Int.tmod a2 (4:Int)) < (4:Int)))) then
 bif (decide (x5 < (4:Nat))) then
 bif (decide (((0:Int) ≤ (Int.tmod (IntKind.wrap .u8 (Int.tdiv a2 (4:Int))) (3:Int))) ∧ ((Int.tmod (IntKind.wrap .u8 (Int.tdiv a2 (4:Int))) (3:Int)) < (3:Int)))) then
 bif (decide (((0:Nat) + ((Int.toNat (Int.tmod (IntKind.wrap .u8 (Int.tdiv a2 (4:Int))) (3:Int))) * (1:Nat))) < (3:Nat))) then
 bif (decide (((0:Int) ≤ (Int.tmod (IntKind.wrap .u8 (Int.tdiv a2 (12:Int))) (2:Int))) ∧ ((Int.tmod (IntKind.wrap .u8 (Int.tdiv a2 (12:Int))) (2:Int)) < (2:Int)))) then
 bif (decide (((0:Nat) + ((Int.toNat (Int.tmod (IntKind.wrap .u8 (Int.tdiv a2 (12:Int))) (2:Int))) * (1:Nat))) < (2:Nat))) then
 bif (decide (((0:Int) ≤ (Int.tmod (IntKind.wrap .u8 (Int.tdiv a2 (24:Int))) (2:Int))) ∧ ((Int.tmod (IntKind.wrap .u8 (Int.tdiv a2 (24:Int))) (2:Int)) < (2:Int)))) then
 bif (decide (((0:Nat) + ((Int.toNat (Int.tmod (IntKind.wrap .u8 (Int.tdiv a2 (24:Int))) (2:Int))) * (1:Nat))) < (2:Nat))) then
 bif (decide (((0:Int) ≤ (Int.tmod (IntKind.wrap .u8 (Int.tdiv a2 (48:Int))) (2:Int))) ∧ ((Int.tmod (IntKind.wrap .u8 (Int.tdiv a2 (48:Int))) (2:Int)) < (2:Int)))) then
 bif (decide (((0:Nat) + ((Int.toNat (Int.tmod (IntKind.wrap .u8 (Int.tdiv a2 (48:Int))) (2:Int))) * (1:Nat))) < (2:Nat))) then
 bif (decide (((0:Int) ≤ (Int.tmod a3 (3:Int))) ∧ ((Int.tmod a3 (3:Int)) < (3:Int)))) then
 bif (decide (((0:Nat) + ((Int.toNat (Int.tmod a3 (3:Int))) * (1:Nat))) < (3:Nat))) then
 bif (decide (((0:Int) ≤ (Int.tmod a2 (4:Int))) ∧ ((Int.tmod a2 (4:Int)) < (4:Int)))) then
 bif (decide (x5 < (4:Nat))) then
 bif x4 then
 none
 else
 (some ([(3:Int), (2:Int), (2:Int)], ((Int.tmod (IntKind.wrap .i64 (IntKind.wrap .u8 (Int.tdiv a0 (6:Int)))) (3:Int)), ((Int.tmod (IntKind.wrap .i64 a1) (4:Int)), ((Int.tmod (IntKind.wrap .i64 (IntKind.wrap .u8 (Int.tdiv a1 (4:Int)))) (2:Int)), ((Int.tmod (IntKind.wrap .i64 (IntKind.wrap .u8 (Int.tdiv a1 (8:Int)))) (4:Int)), ((Int.tmod (IntKind.wrap .i64 (IntKind.wrap .u8 (Int.tdiv a1 (32:Int)))) (3:Int)), ((List.getD [(1008981770:Int), (1036831949:Int), (1065353216:Int), (981668463:Int)] x5 (0:Int)), ((List.getD [(0:Int), (1063675494:Int), (1056964608:Int)] ((0:Nat) + ((Int.toNat (Int.tmod (IntKind.wrap .u8 (Int.tdiv a2 (4:Int))) (3:Int))) * (1:Nat))) (0:Int)), ((List.getD [(1065336439:Int), (1063675494:Int)] ((0:Nat) + ((Int.toNat (Int.tmod (IntKind.wrap .u8 (Int.tdiv a2 (12:Int))) (2:Int))) * (1:Nat))) (0:Int)), ((List.getD [(841731191:Int), (981668463:Int)] ((0:Nat) + ((Int.toNat (Int.tmod (IntKind.wrap .u8 (Int.tdiv a2 (24:Int))) (2:Int))) * (1:Nat))) (0:Int)), ((List.getD [(0:Int), (1008981770:Int)] ((0:Nat) + ((Int.toNat (Int.tmod (IntKind.wrap .u8 (Int.tdiv a2 (48:Int))) (2:Int))) * (1:Nat))) (0:Int)), ((List.getD [(0:Int), (1065353216:Int), (1036831949:Int)] ((0:Nat) + ((Int.toNat (Int.tmod a3 (3:Int))) * (1:Nat))) (0:Int)), (x6, ((IntKind.wrap .i64 ((IntKind.wrap .i64 (x6 + (Int.tmod (IntKind.wrap .i64 a3) (17:Int)))) + (1:Int))), ((IntKind.wrap .i64 ((Int.tmod (IntKind.wrap .i64 (IntKind.wrap .u8 (Int.tdiv a3 (9:Int)))) (4:Int)) + (1:Int))), ((IntKind.wrap .i64 ((Int.tmod (IntKind.wrap .i64 (IntKind.wrap .u8 (Int.tdiv a3 (36:Int)))) (2:Int)) + (1:Int))), (a4, ((List.getD [(0:Int), (536870912:Int), (2147483647:Int), (0:Int)] x5 (0:Int)), (((Int.tmod a3 (5:Int)) == (0:Int)), ((IntKind.wrap .i64 (x1 + (Int.tmod (IntKind.wrap .i64 a2) x3))), (x1, (x2, ((IntKind.wrap .i64 (x1 + (1:Int))), ((IntKind.wrap .i64 ((Int.tmod (IntKind.wrap .i64 a2) (2:Int)) + (1:Int))), ((IntKind.wrap .i64 ((Int.tmod (IntKind.wrap .i64 a3) (3:Int)) + (1:Int))), ((Int.tmod (IntKind.wrap .i64 a0) (4:Int)), ())))))))))))))))))))))))))))
 else
 none
 else
 none
 else
 none
 else
 none
 else
 none
 else
 none
 else
 none
 else
 none
 else
 none
 else
 none
 else
 none
 else
 none
 else
 none
 else
 none
 else
 bif (Nat.beq x0 (2:Nat)) then
 bif (decide (((0:Int) ≤ (Int.tmod a2 (4:Int))) ∧ ((Int.tmod a2 (4:Int)) < (4:Int)))) then
 bif (decide (x5 < (4:Nat))) then
 bif (decide (((0:Int) ≤ (Int.tmod (IntKind.wrap .u8 (Int.tdiv a2 (4:Int))) (3:Int))) ∧ ((Int.tmod (IntKind.wrap .u8 (Int.tdiv a2 (4:Int))) (3:Int)) < (3:Int)))) then
 bif (decide (((0:Nat) + ((Int.toNat (Int.tmod (IntKind.wrap .u8 (Int.tdiv a2 (4:Int))) (3:Int))) * (1:Nat))) < (3:Nat))) then
 bif (decide (((0:Int) ≤ (Int.tmod (IntKind.wrap .u8 (Int.tdiv a2 (12:Int))) (2:Int))) ∧ ((Int.tmod (IntKind.wrap .u8 (Int.tdiv a2 (12:Int))) (2:Int)) < (2:Int)))) then
 bif (decide (((0:Nat) + ((Int.toNat (Int.tmod (IntKind.wrap .u8 (Int.tdiv a2 (12:Int))) (2:Int))) * (1:Nat))) < (2:Nat))) then
 bif (decide (((0:Int) ≤ (Int.tmod (IntKind.wrap .u8 (Int.tdiv a2 (24:Int))) (2:Int))) ∧ ((Int.tmod (IntKind.wrap .u8 (Int.tdiv a2 (24:Int))) (2:Int)) < (2:Int)))) then
 bif (decide (((0:Nat) + ((Int.toNat (Int.tmod (IntKind.wrap .u8 (Int.tdiv a2 (24:Int))) (2:Int))) * (1:Nat))) < (2:Nat))) then
 bif (decide (((0:Int) ≤ (Int.tmod (IntKind.wrap .u8 (Int.tdiv a2 (48:Int))) (2:Int))) ∧ ((Int.tmod (IntKind.wrap .u8 (Int.tdiv a2 (48:Int))) (2:Int)) < (2:Int)))) then
 bif (decide (((0:Nat) + ((Int.toNat (Int.tmod (IntKind.wrap .u8 (Int.tdiv a2 (48:Int))) (2:Int))) * (1:Nat))) < (2:Nat))) then
 bif (decide (((0:Int) ≤ (Int.tmod a3 (3:Int))) ∧ ((Int.tmod a3 (3:Int)) < (3:Int)))) then
 bif (decide (((0:Nat) + ((Int.toNat (Int.tmod a3 (3:Int))) * (1:Nat))) < (3:Nat))) then
 bif (decide (((0:Int) ≤ (Int.tmod a2 (4:Int))) ∧ ((Int.tmod a2 (4:Int)) < (4:Int)))) then
 bif (decide (x5 < (4:Nat))) then
 bif x4 then
 none
 else
 (some ([(2:Int), (4:Int), (3:Int)], ((Int.tmod (IntKind.wrap .i64 (IntKind.wrap .u8 (Int.tdiv a0 (6:Int)))) (3:Int)), ((Int.tmod (IntKind.wrap .i64 a1) (4:Int)), ((Int.tmod (IntKind.wrap .i64 (IntKind.wrap .u8 (Int.tdiv a1 (4:Int)))) (2:Int)), ((Int.tmod (IntKind.wrap .i64 (IntKind.wrap .u8 (Int.tdiv a1 (8:Int)))) (4:Int)), ((Int.tmod (IntKind.wrap .i64 (IntKind.wrap .u8 (Int.tdiv a1 (32:Int)))) (3:Int)), ((List.getD [(1008981770:Int), (1036831949:Int), (1065353216:Int), (981668463:Int)] x5 (0:Int)), ((List.getD [(0:Int), (1063675494:Int), (1056964608:Int)] ((0:Nat) + ((Int.toNat (Int.tmod (IntKind.wrap .u8 (Int.tdiv a2 (4:Int))) (3:Int))) * (1:Nat))) (0:Int)), ((List.getD [(1065336439:Int), (1063675494:Int)] ((0:Nat) + ((Int.toNat (Int.tmod (IntKind.wrap .u8 (Int.tdiv a2 (12:Int))) (2:Int))) * (1:Nat))) (0:Int)), ((List.getD [(841731191:Int), (981668463:Int)] ((0:Nat) + ((Int.toNat (Int.tmod (IntKind.wrap .u8 (Int.tdiv a2 (24:Int))) (2:Int))) * (1:Nat))) (0:Int)), ((List.getD [(0:Int), (1008981770:Int)] ((0:Nat) + ((Int.toNat (Int.tmod (IntKind.wrap .u8 (Int.tdiv a2 (48:Int))) (2:Int))) * (1:Nat))) (0:Int)), ((List.getD [(0:Int), (1065353216:Int), (1036831949:Int)] ((0:Nat) + ((Int.toNat (Int.tmod a3 (3:Int))) * (1:Nat))) (0:Int)), (x6, ((IntKind.wrap .i64 ((IntKind.wrap .i64 (x6 + (Int.tmod (IntKind.wrap .i64 a3) (17:Int)))) + (1:Int))), ((IntKind.wrap .i64 ((Int.tmod (IntKind.wrap .i64 (IntKind.wrap .u8 (Int.tdiv a3 (9:Int)))) (4:Int)) + (1:Int))), ((IntKind.wrap .i64 ((Int.tmod (IntKind.wrap .i64 (IntKind.wrap .u8 (Int.tdiv a3 (36:Int)))) (2:Int)) + (1:Int))), (a4, ((List.getD [(0:Int), (536870912:Int), (2147483647:Int), (0:Int)] x5 (0:Int)), (((Int.tmod a3 (5:Int)) == (0:Int)), ((IntKind.wrap .i64 (x1 + (Int.tmod (IntKind.wrap .i64 a2) x3))), (x1, (x2, ((IntKind.wrap .i64 (x1 + (1:Int))), ((IntKind.wrap .i64 ((Int.tmod (IntKind.wrap .i64 a2) (2:Int)) + (1:Int))), ((IntKind.wrap .i64 ((Int.tmod (IntKind.wrap .i64 a3) (3:Int)) + (1:Int))), ((Int.tmod (IntKind.wrap .i64 a0) (4:Int)), ())))))))))))))))))))))))))))
 else
 none
 else
 none
 else
 none
 else
 none
 else
 none
 else
 none
 else
 none
 else
 none
 else
 none
 else
 none
 else
 none
 else
 none
 else
 none
 else
 none
 else
 bif (Nat.beq x0 (3:Nat)) then
 bif (decide (((0:Int) ≤ (Int.tmod a2 (4:Int))) ∧ ((Int.tmod a2 (4:Int)) < (4:Int)))) then
 bif (decide (x5 < (4:Nat))) then
 bif (decide (((0:Int) ≤ (Int.tmod (IntKind.wrap .u8 (Int.tdiv a2 (4:Int))) (3:Int))) ∧ ((Int.tmod (IntKind.wrap .u8 (Int.tdiv a2 (4:Int))) (3:Int)) < (3:Int)))) then
 bif (decide (((0:Nat) + ((Int.toNat (Int.tmod (IntKind.wrap .u8 (Int.tdiv a2 (4:Int))) (3:Int))) * (1:Nat))) < (3:Nat))) then
 bif (decide (((0:Int) ≤ (Int.tmod (IntKind.wrap .u8 (Int.tdiv a2 (12:Int))) (2:Int))) ∧ ((Int.tmod (IntKind.wrap .u8 (Int.tdiv a2 (12:Int))) (2:Int)) < (2:Int)))) then
 bif (decide (((0:Nat) + ((Int.toNat (Int.tmod (IntKind.wrap .u8 (Int.tdiv a2 (12:Int))) (2:Int))) * (1:Nat))) < (2:Nat))) then
 bif (decide (((0:Int) ≤ (Int.tmod (IntKind.wrap .u8 (Int.tdiv a2 (24:Int))) (2:Int))) ∧ ((Int.tmod (IntKind.wrap .u8 (Int.tdiv a2 (24:Int))) (2:Int)) < (2:Int)))) then
 bif (decide (((0:Nat) + ((Int.toNat (Int.tmod (IntKind.wrap .u8 (Int.tdiv a2 (24:Int))) (2:Int))) * (1:Nat))) < (2:Nat))) then
 bif (decide (((0:Int) ≤ (Int.tmod (IntKind.wrap .u8 (Int.tdiv a2 (48:Int))) (2:Int))) ∧ ((Int.tmod (IntKind.wrap .u8 (Int.tdiv a2 (48:Int))) (2:Int)) < (2:Int)))) then
 bif (decide (((0:Nat) + ((Int.toNat (Int.tmod (IntKind.wrap .u8 (Int.tdiv a2 (48:Int))) (2:Int))) * (1:Nat))) < (2:Nat))) then
 bif (decide (((0:Int) ≤ (Int.tmod a3 (3:Int))) ∧ ((Int.tmod a3 (3:Int)) < (3:Int)))) then
 bif (decide (((0:Nat) + ((Int.toNat (Int.tmod a3 (3:Int))) * (1:Nat))) < (3:Nat))) then
 bif (decide (((0:Int) ≤ (Int.tmod a2 (4:Int))) ∧ ((Int.tmod a2 (4:Int)) < (4:Int)))) then
 bif (decide (x5 < (4:Nat))) then
 bif x4 then
 none
 else
 (some ([(1:Int), (2:Int), (2:Int), (2:Int)], ((Int.tmod (IntKind.wrap .i64 (IntKind.wrap .u8 (Int.tdiv a0 (6:Int)))) (3:Int)), ((Int.tmod (IntKind.wrap .i64 a1) (4:Int)), ((Int.tmod (IntKind.wrap .i64 (IntKind.wrap .u8 (Int.tdiv a1 (4:Int)))) (2:Int)), ((Int.tmod (IntKind.wrap .i64 (IntKind.wrap .u8 (Int.tdiv a1 (8:Int)))) (4:Int)), ((Int.tmod (IntKind.wrap .i64 (IntKind.wrap .u8 (Int.tdiv a1 (32:Int)))) (3:Int)), ((List.getD [(1008981770:Int), (1036831949:Int), (1065353216:Int), (981668463:Int)] x5 (0:Int)), ((List.getD [(0:Int), (1063675494:Int), (1056964608:Int)] ((0:Nat) + ((Int.toNat (Int.tmod (IntKind.wrap .u8 (Int.tdiv a2 (4:Int))) (3:Int))) * (1:Nat))) (0:Int)), ((List.getD [(1065336439:Int), (1063675494:Int)] ((0:Nat) + ((Int.toNat (Int.tmod (IntKind.wrap .u8 (Int.tdiv a2 (12:Int))) (2:Int))) * (1:Nat))) (0:Int)), ((List.getD [(841731191:Int), (981668463:Int)] ((0:Nat) + ((Int.toNat (Int.tmod (IntKind.wrap .u8 (Int.tdiv a2 (24:Int))) (2:Int))) * (1:Nat))) (0:Int)), ((List.getD [(0:Int), (1008981770:Int)] ((0:Nat) + ((Int.toNat (Int.tmod (IntKind.wrap .u8 (Int.tdiv a2 (48:Int))) (2:Int))) * (1:Nat))) (0:Int)), ((List.getD [(0:Int), (1065353216:Int), (1036831949:Int)] ((0:Nat) + ((Int.toNat (Int.tmod a3 (3:Int))) * (1:Nat))) (0:Int)), (x6, ((IntKind.wrap .i64 ((IntKind.wrap .i64 (x6 + (Int.tmod (IntKind.wrap .i64 a3) (17:Int)))) + (1:Int))), ((IntKind.wrap .i64 ((Int.tmod (IntKind.wrap .i64 (IntKind.wrap .u8 (Int.tdiv a3 (9:Int)))) (4:Int)) + (1:Int))), ((IntKind.wrap .i64 ((Int.tmod (IntKind.wrap .i64 (IntKind.wrap .u8 (Int.tdiv a3 (36:Int)))) (2:Int)) + (1:Int))), (a4, ((List.getD [(0:Int), (536870912:Int), (2147483647:Int), (0:Int)] x5 (0:Int)), (((Int.tmod a3 (5:Int)) == (0:Int)), ((IntKind.wrap .i64 (x1 + (Int.tmod (IntKind.wrap .i64 a2) x3))), (x1, (x2, ((IntKind.wrap .i64 (x1 + (1:Int))), ((IntKind.wrap .i64 ((Int.tmod (IntKind.wrap .i64 a2) (2:Int)) + (1:Int))), ((IntKind.wrap .i64 ((Int.tmod (IntKind.wrap .i64 a3) (3:Int)) + (1:Int))), ((Int.tmod (IntKind.wrap .i64 a0) (4:Int)), ())))))))))))))))))))))))))))
 else
 none
 else
 none
 else
 none
 else
 none
 else
 none
 else
 none
 else
 none
 else
 none
 else
 none
 else
 none
 else
 none
 else
 none
 else
 none
 else
 none
 else
 bif (Nat.beq x0 (4:Nat)) then
 bif (decide (((0:Int) ≤ (Int.tmod a2 (4:Int))) ∧ ((Int.tmod a2 (4:Int)) < (4:Int)))) then
 bif (decide (x5 < (4:Nat))) then
 bif (decide (((0:Int) ≤ (Int.tmod (IntKind.wrap .u8 (Int.tdiv a2 (4:Int))) (3:Int))) ∧ ((Int.tmod (IntKind.wrap .u8 (Int.tdiv a2 (4:Int))) (3:Int)) < (3:Int)))) then
 bif (decide (((0:Nat) + ((Int.toNat (Int.tmod (IntKind.wrap .u8 (Int.tdiv a2 (4:Int))) (3:Int))) * (1:Nat))) < (3:Nat))) then
 bif (decide (((0:Int) ≤ (Int.tmod (IntKind.wrap .u8 (Int.tdiv a2 (12:Int))) (2:Int))) ∧ ((Int.tmod (IntKind.wrap .u8 (Int.tdiv a2 (12:Int))) (2:Int)) < (2:Int)))) then
 bif (decide (((0:Nat) + ((Int.toNat (Int.tmod (IntKind.wrap .u8 (Int.tdiv a2 (12:Int))) (2:Int))) * (1:Nat))) < (2:Nat))) then
 bif (decide (((0:Int) ≤ (Int.tmod (IntKind.wrap .u8 (Int.tdiv a2 (24:Int))) (2:Int))) ∧ ((Int.tmod (IntKind.wrap .u8 (Int.tdiv a2 (24:Int))) (2:Int)) < (2:Int)))) then
 bif (decide (((0:Nat) + ((Int.toNat (Int.tmod (IntKind.wrap .u8 (Int.tdiv a2 (24:Int))) (2:Int))) * (1:Nat))) < (2:Nat))) then
 bif (decide (((0:Int) ≤ (Int.tmod (IntKind.wrap .u8 (Int.tdiv a2 (48:Int))) (2:Int))) ∧ ((Int.tmod (IntKind.wrap .u8 (Int.tdiv a2 (48:Int))) (2:Int)) < (2:Int)))) then
 bif (decide (((0:Nat) + ((Int.toNat (Int.tmod (IntKind.wrap .u8 (Int.tdiv a2 (48:Int))) (2:Int))) * (1:Nat))) < (2:Nat))) then
 bif (decide (((0:Int) ≤ (Int.tmod a3 (3:Int))) ∧ ((Int.tmod a3 (3:Int)) < (3:Int)))) then
 bif (decide (((0:Nat) + ((Int.toNat (Int.tmod a3 (3:Int))) * (1:Nat))) < (3:Nat))) then
 bif (decide (((0:Int) ≤ (Int.tmod a2 (4:Int))) ∧ ((Int.tmod a2 (4:Int)) < (4:Int)))) then
 bif (decide (x5 < (4:Nat))) then
 bif x4 then
 none
 else
 (some (x7, ((Int.tmod (IntKind.wrap .i64 (IntKind.wrap .u8 (Int.tdiv a0 (6:Int)))) (3:Int)), ((Int.tmod (IntKind.wrap .i64 a1) (4:Int)), ((Int.tmod (IntKind.wrap .i64 (IntKind.wrap .u8 (Int.tdiv a1 (4:Int)))) (2:Int)), ((Int.tmod (IntKind.wrap .i64 (IntKind.wrap .u8 (Int.tdiv a1 (8:Int)))) (4:Int)), ((Int.tmod (IntKind.wrap .i64 (IntKind.wrap .u8 (Int.tdiv a1 (32:Int)))) (3:Int)), ((List.getD [(1008981770:Int), (1036831949:Int), (1065353216:Int), (981668463:Int)] x5 (0:Int)), ((List.getD [(0:Int), (1063675494:Int), (1056964608:Int)] ((0:Nat) + ((Int.toNat (Int.tmod (IntKind.wrap .u8 (Int.tdiv a2 (4:Int))) (3:Int))) * (1:Nat))) (0:Int)), ((List.getD [(1065336439:Int), (1063675494:Int)] ((0:Nat) + ((Int.toNat (Int.tmod (IntKind.wrap .u8 (Int.tdiv a2 (12:Int))) (2:Int))) * (1:Nat))) (0:Int)), ((List.getD [(841731191:Int), (981668463:Int)] ((0:Nat) + ((Int.toNat (Int.tmod (IntKind.wrap .u8 (Int.tdiv a2 (24:Int))) (2:Int))) * (1:Nat))) (0:Int)), ((List.getD [(0:Int), (1008981770:Int)] ((0:Nat) + ((Int.toNat (Int.tmod (IntKind.wrap .u8 (Int.tdiv a2 (48:Int))) (2:Int))) * (1:Nat))) (0:Int)), ((List.getD [(0:Int), (1065353216:Int), (1036831949:Int)] ((0:Nat) + ((Int.toNat (Int.tmod a3 (3:Int))) * (1:Nat))) (0:Int)), (x6, ((IntKind.wrap .i64 ((IntKind.wrap .i64 (x6 + (Int.tmod (IntKind.wrap .i64 a3) (17:Int)))) + (1:Int))), ((IntKind.wrap .i64 ((Int.tmod (IntKind.wrap .i64 (IntKind.wrap .u8 (Int.tdiv a3 (9:Int)))) (4:Int)) + (1:Int))), ((IntKind.wrap .i64 ((Int.tmod (IntKind.wrap .i64 (IntKind.wrap .u8 (Int.tdiv a3 (36:Int)))) (2:Int)) + (1:Int))), (a4, ((List.getD [(0:Int), (536870912:Int), (2147483647:Int), (0:Int)] x5 (0:Int)), (((Int.tmod a3 (5:Int)) == (0:Int)), ((IntKind.wrap .i64 (x1 + (Int.tmod (IntKind.wrap .i64 a2) x3))), (x1, (x2, ((IntKind.wrap .i64 (x1 + (1:Int))), ((IntKind.wrap .i64 ((Int.tmod (IntKind.wrap .i64 a2) (2:Int)) + (1:Int))), ((IntKind.wrap .i64 ((Int.tmod (IntKind.wrap .i64 a3) (3:Int)) + (1:Int))), ((Int.tmod (IntKind.wrap .i64 a0) (4:Int)), ())))))))))))))))))))))))))))
 else
 none
 else
 none
 else
 none
 else
 none
 else
 none
 else
 none
 else
 none
 else
 none
 else
 none
 else
 none
 else
 none
 else
 none
 else
 none
 else
 none
 else
 bif (Nat.beq x0 (5:Nat)) then
 bif (decide (((0:Int) ≤ (Int.tmod a2 (4:Int))) ∧ ((Int.tmod a2 (4:Int)) < (4:Int)))) then
 bif (decide (x5 < (4:Nat))) then
 bif (decide (((0:Int) ≤ (Int.tmod (IntKind.wrap .u8 (Int.tdiv a2 (4:Int))) (3:Int))) ∧ ((Int.tmod (IntKind.wrap .u8 (Int.tdiv a2 (4:Int))) (3:Int)) < (3:Int)))) then
 bif (decide (((0:Nat) + ((Int.toNat (Int.tmod (IntKind.wrap .u8 (Int.tdiv a2 (4:Int))) (3:Int))) * (1:Nat))) < (3:Nat))) then
 bif (decide (((0:Int) ≤ (Int.tmod (IntKind.wrap .u8 (Int.tdiv a2 (12:Int))) (2:Int))) ∧ ((Int.tmod (IntKind.wrap .u8 (Int.tdiv a2 (12:Int))) (2:Int)) < (2:Int)))) then
 bif (decide (((0:Nat) + ((Int.toNat (Int.tmod (IntKind.wrap .u8 (Int.tdiv a2 (12:Int))) (2:Int))) * (1:Nat))) < (2:Nat))) then
 bif (decide (((0:Int) ≤ (Int.tmod (IntKind.wrap .u8 (Int.tdiv a2 (24:Int))) (2:Int))) ∧ ((Int.tmod (IntKind.wrap .u8 (Int.tdiv a2 (24:Int))) (2:Int)) < (2:Int)))) then
 bif (decide (((0:Nat) + ((Int.toNat (Int.tmod (IntKind.wrap .u8 (Int.tdiv a2 (24:Int))) (2:Int))) * (1:Nat))) < (2:Nat))) then
 bif (decide (((0:Int) ≤ (Int.tmod (IntKind.wrap .u8 (Int.tdiv a2 (48:Int))) (2:Int))) ∧ ((Int.tmod (IntKind.wrap .u8 (Int.tdiv a2 (48:Int))) (2:Int)) < (2:Int)))) then
 bif (decide (((0:Nat) + ((Int.toNat (Int.tmod (IntKind.wrap .u8 (Int.tdiv a2 (48:Int))) (2:Int))) * (1:Nat))) < (2:Nat))) then
 bif (decide (((0:Int) ≤ (Int.tmod a3 (3:Int))) ∧ ((Int.tmod a3 (3:Int)) < (3:Int)))) then
 bif (decide (((0:Nat) + ((Int.toNat (Int.tmod a3 (3:Int))) * (1:Nat))) < (3:Nat))) then
 bif (decide (((0:Int) ≤ (Int.tmod a2 (4:Int))) ∧ ((Int.tmod a2 (4:Int)) < (4:Int)))) then
 bif (decide (x5 < (4:Nat))) then
 bif x4 then
 none
 else
 (some ([(4:Int), (3:Int), (2:Int)], ((Int.tmod (IntKind.wrap .i64 (IntKind.wrap .u8 (Int.tdiv a0 (6:Int)))) (3:Int)), ((Int.tmod (IntKind.wrap .i64 a1) (4:Int)), ((Int.tmod (IntKind.wrap .i64 (IntKind.wrap .u8 (Int.tdiv a1 (4:Int)))) (2:Int)), ((Int.tmod (IntKind.wrap .i64 (IntKind.wrap .u8 (Int.tdiv a1 (8:Int)))) (4:Int)), ((Int.tmod (IntKind.wrap .i64 (IntKind.wrap .u8 (Int.tdiv a1 (32:Int)))) (3:Int)), ((List.getD [(1008981770:Int), (1036831949:Int), (1065353216:Int), (981668463:Int)] x5 (0:Int)), ((List.getD [(0:Int), (1063675494:Int), (1056964608:Int)] ((0:Nat) + ((Int.toNat (Int.tmod (IntKind.wrap .u8 (Int.tdiv a2 (4:Int))) (3:Int))) * (1:Nat))) (0:Int)), ((List.getD [(1065336439:Int), (1063675494:Int)] ((0:Nat) + ((Int.toNat (Int.tmod (IntKind.wrap .u8 (Int.tdiv a2 (12:Int))) (2:Int))) * (1:Nat))) (0:Int)), ((List.getD [(841731191:Int), (981668463:Int)] ((0:Nat) + ((Int.toNat (Int.tmod (IntKind.wrap .u8 (Int.tdiv a2 (24:Int))) (2:Int))) * (1:Nat))) (0:Int)), ((List.getD [(0:Int), (1008981770:Int)] ((0:Nat) + ((Int.toNat (Int.tmod (IntKind.wrap .u8 (Int.tdiv a2 (48:Int))) (2:Int))) * (1:Nat))) (0:Int)), ((List.getD [(0:Int), (1065353216:Int), (1036831949:Int)] ((0:Nat) + ((Int.toNat (Int.tmod a3 (3:Int))) * (1:Nat))) (0:Int)), (x6, ((IntKind.wrap .i64 ((IntKind.wrap .i64 (x6 + (Int.tmod (IntKind.wrap .i64 a3) (17:Int)))) + (1:Int))), ((IntKind.wrap .i64 ((Int.tmod (IntKind.wrap .i64 (IntKind.wrap .u8 (Int.tdiv a3 (9:Int)))) (4:Int)) + (1:Int))), ((IntKind.wrap .i64 ((Int.tmod (IntKind.wrap .i64 (IntKind.wrap .u8 (Int.tdiv a3 (36:Int)))) (2:Int)) + (1:Int))), (a4, ((List.getD [(0:Int), (536870912:Int), (2147483647:Int), (0:Int)] x5 (0:Int)), (((Int.tmod a3 (5:Int)) == (0:Int)), ((IntKind.wrap .i64 (x1 + (Int.tmod (IntKind.wrap .i64 a2) x3))), (x1, (x2, ((IntKind.wrap .i64 (x1 + (1:Int))), ((IntKind.wrap .i64 ((Int.tmod (IntKind.wrap .i64 a2) (2:Int)) + (1:Int))), ((IntKind.wrap .i64 ((Int.tmod (IntKind.wrap .i64 a3) (3:Int)) + (1:Int))), ((Int.tmod (IntKind.wrap .i64 a0) (4:Int)), ())))))))))))))))))))))))))))
 else
 none
 else
 none
 else
 none
 else
 none
 else
 none
 else
 none
 else
 none
 else
 none
 else
 none
 else
 none
 else
 none
 else
 none
 else
 none
 else
 none
 else
 bif (Nat.beq x0 (6:Nat)) then
 none
 else
 none
 else
 none
noncomputable def G_96 : T fa_96 → TH hN0 → Option (List Int × Int × Int × Int × Int × Int × Int × Int × Int × Int × Int × Int × Int × Int × Int × Int × Int × Int × Bool × Int × Int × Int × Int × Int × Int × Int × Unit) := fun x y => F_96 x.1 x.2.1 x.2.2.1 x.2.2.2.1 x.2.2.2.2.1
noncomputable def c_96 : Orc := ent i_96 [] 0 (sp fa_96 hN0 fr_96 hN0 G_96 (outN fr_96))
theorem ok_96 : OrcOk PR c_96 := fnT okO_96 mixed p_96 (by kernel_rfl) (by kernel_rfl) (L := L0) (kp := false) (by kernel_rfl) (inn := (innN fr_96)) (out := (outN fr_96)) (fun _ _ => rfl) (loopsL (l := []) (by kernel_rfl) trivial) (fun x y => by kernel_rfl)
theorem cfg_eq {a b c d s : Int} (ha : 0 ≤ a ∧ a ≤ 255) (hb : 0 ≤ b ∧ b ≤ 255) (hc : 0 ≤ c ∧ c ≤ 255) (hd : 0 ≤ d ∧ d ≤ 255) : F_96 a b c d s = some (cfg a b c d s) := by
  have e0 : Int.tmod a 6 = a % 6 := tmod_nn ha.1
  have e1 : IntKind.i64.wrap b = b := wi64 (by omega)
  have e2 : IntKind.i64.wrap a = a := wi64 (by omega)
  have e3 : IntKind.i64.wrap c = c := wi64 (by omega)
  have e4 : IntKind.i64.wrap d = d := wi64 (by omega)
  have e5 : Int.tmod b 3 = b % 3 := tmod_nn hb.1
  have e6 : Int.tmod a 25 = a % 25 := tmod_nn ha.1
  have e7 : IntKind.i64.wrap (b % 3 + a % 25) = b % 3 + a % 25 := wi64 (by omega)
  have e8 : IntKind.i64.wrap (b % 3 + a % 25 - b % 3) = a % 25 := by rw [wi64 (by omega)]; omega
  have e9 : IntKind.i64.wrap (a % 25 + 1) = a % 25 + 1 := wi64 (by omega)
  have e10 : Int.tmod c 4 = c % 4 := tmod_nn hc.1
  have e11 : IntKind.i64.wrap (IntKind.u8.wrap (Int.tdiv d 3)) = d / 3 := by rw [tdiv_nn hd.1, wu8 (by omega), wi64 (by omega)]
  have e12 : Int.tmod (d / 3) 4 = d / 3 % 4 := tmod_nn (by omega)
  have e13 : IntKind.u8.wrap (Int.tdiv c 4) = c / 4 := by rw [tdiv_nn hc.1, wu8 (by omega)]
  have e14 : Int.tmod (c / 4) 3 = c / 4 % 3 := tmod_nn (by omega)
  have e15 : IntKind.u8.wrap (Int.tdiv c 12) = c / 12 := by rw [tdiv_nn hc.1, wu8 (by omega)]
  have e16 : Int.tmod (c / 12) 2 = c / 12 % 2 := tmod_nn (by omega)
  have e17 : IntKind.u8.wrap (Int.tdiv c 24) = c / 24 := by rw [tdiv_nn hc.1, wu8 (by omega)]
  have e18 : Int.tmod (c / 24) 2 = c / 24 % 2 := tmod_nn (by omega)
  have e19 : IntKind.u8.wrap (Int.tdiv c 48) = c / 48 := by rw [tdiv_nn hc.1, wu8 (by omega)]
  have e20 : Int.tmod (c / 48) 2 = c / 48 % 2 := tmod_nn (by omega)
  have e21 : Int.tmod d 3 = d % 3 := tmod_nn hd.1
  have e22 : IntKind.i64.wrap (IntKind.u8.wrap (Int.tdiv a 6)) = a / 6 := by rw [tdiv_nn ha.1, wu8 (by omega), wi64 (by omega)]
  have e23 : Int.tmod (a / 6) 3 = a / 6 % 3 := tmod_nn (by omega)
  have e24 : Int.tmod b 4 = b % 4 := tmod_nn hb.1
  have e25 : IntKind.i64.wrap (IntKind.u8.wrap (Int.tdiv b 4)) = b / 4 := by rw [tdiv_nn hb.1, wu8 (by omega), wi64 (by omega)]
  have e26 : Int.tmod (b / 4) 2 = b / 4 % 2 := tmod_nn (by omega)
  have e27 : IntKind.i64.wrap (IntKind.u8.wrap (Int.tdiv b 8)) = b / 8 := by rw [tdiv_nn hb.1, wu8 (by omega), wi64 (by omega)]
  have e28 : Int.tmod (b / 8) 4 = b / 8 % 4 := tmod_nn (by omega)
  have e29 : IntKind.i64.wrap (IntKind.u8.wrap (Int.tdiv b 32)) = b / 32 := by rw [tdiv_nn hb.1, wu8 (by omega), wi64 (by omega)]
  have e30 : Int.tmod (b / 32) 3 = b / 32 % 3 := tmod_nn (by omega)
  have e31 : Int.tmod d 17 = d % 17 := tmod_nn hd.1
  have e32 : IntKind.i64.wrap (IntKind.i64.wrap (d / 3 % 4 + d % 17) + 1) = d / 3 % 4 + d % 17 + 1 := by rw [wi64 (n := d / 3 % 4 + d % 17) (by omega), wi64 (by omega)]
  have e33 : IntKind.i64.wrap (IntKind.u8.wrap (Int.tdiv d 9)) = d / 9 := by rw [tdiv_nn hd.1, wu8 (by omega), wi64 (by omega)]
  have e34 : Int.tmod (d / 9) 4 = d / 9 % 4 := tmod_nn (by omega)
  have e35 : IntKind.i64.wrap (d / 9 % 4 + 1) = d / 9 % 4 + 1 := wi64 (by omega)
  have e36 : IntKind.i64.wrap (IntKind.u8.wrap (Int.tdiv d 36)) = d / 36 := by rw [tdiv_nn hd.1, wu8 (by omega), wi64 (by omega)]
  have e37 : Int.tmod (d / 36) 2 = d / 36 % 2 := tmod_nn (by omega)
  have e38 : IntKind.i64.wrap (d / 36 % 2 + 1) = d / 36 % 2 + 1 := wi64 (by omega)
  have e39 : Int.tmod d 5 = d % 5 := tmod_nn hd.1
  have e40 : Int.tmod c (a % 25 + 1) = c % (a % 25 + 1) := tmod_nn hc.1
  have hm : 0 ≤ c % (a % 25 + 1) ∧ c % (a % 25 + 1) < a % 25 + 1 := ⟨Int.emod_nonneg _ (by omega), Int.emod_lt_of_pos _ (by omega)⟩
  have e41 : IntKind.i64.wrap (b % 3 + c % (a % 25 + 1)) = b % 3 + c % (a % 25 + 1) := wi64 (by omega)
  have e42 : IntKind.i64.wrap (b % 3 + 1) = b % 3 + 1 := wi64 (by omega)
  have e43 : Int.tmod c 2 = c % 2 := tmod_nn hc.1
  have e44 : IntKind.i64.wrap (c % 2 + 1) = c % 2 + 1 := wi64 (by omega)
  have e45 : IntKind.i64.wrap (d % 3 + 1) = d % 3 + 1 := wi64 (by omega)
  have e46 : Int.tmod a 4 = a % 4 := tmod_nn ha.1
  have h0 : (a % 25 + 1 == 0) = false := by simp; omega
  have g1 : ∀ (x : Int) (n : Int), (0 ≤ x % n ∧ x % n < n) = (0 ≤ x % n ∧ x % n < n) := fun _ _ => rfl
  have c1 : (0 ≤ a % 6 ∧ a % 6 < 6) = True := by simp; omega
  have c2 : (0 ≤ c % 4 ∧ c % 4 < 4) = True := by simp; omega
  have c3 : (0 ≤ c / 4 % 3 ∧ c / 4 % 3 < 3) = True := by simp; omega
  have c4 : (0 ≤ c / 12 % 2 ∧ c / 12 % 2 < 2) = True := by simp; omega
  have c5 : (0 ≤ c / 24 % 2 ∧ c / 24 % 2 < 2) = True := by simp; omega
  have c6 : (0 ≤ c / 48 % 2 ∧ c / 48 % 2 < 2) = True := by simp; omega
  have c7 : (0 ≤ d % 3 ∧ d % 3 < 3) = True := by simp; omega
  have z : ∀ n : Nat, 0 + n * 1 = n := fun n => by omega
  have t1 : ((c % 4).toNat < 4) = True := by simp; omega
  have t2 : ((c / 4 % 3).toNat < 3) = True := by simp; omega
  have t3 : ((c / 12 % 2).toNat < 2) = True := by simp; omega
  have t4 : ((c / 24 % 2).toNat < 2) = True := by simp; omega
  have t5 : ((c / 48 % 2).toNat < 2) = True := by simp; omega
  have t6 : ((d % 3).toNat < 3) = True := by simp; omega
  unfold F_96
  simp only [e0, e1, e2, e3, e4, e5, e6, e7, e8, e9, e10, e11, e12, e13, e14, e15, e16, e17, e18, e19, e20, e21, e22, e23, e24, e25, e26, e27, e28, e29, e30, e31, e32, e33, e34, e35, e36, e37, e38, e39, e40, e41, e42, e43, e44, e45, e46, h0, c1, c2, c3, c4, c5, c6, c7, z, t1, t2, t3, t4, t5, t6, decide_true, cond_true, cond_false, bif_beq]
  unfold cfg wlist
  have : a % 6 = 0 ∨ a % 6 = 1 ∨ a % 6 = 2 ∨ a % 6 = 3 ∨ a % 6 = 4 ∨ a % 6 = 5 := by omega
  rcases this with h | h | h | h | h | h <;> simp [h]
abbrev ScT : Type := Int × Int × Int × Int × Unit
abbrev CfgT.min (c : CfgT) : Int := c.2.2.2.2.2.2.2.2.2.2.2.2.2.2.2.2.2.2.2.2.1
abbrev CfgT.max (c : CfgT) : Int := c.2.2.2.2.2.2.2.2.2.2.2.2.2.2.2.2.2.2.2.2.2.1
abbrev CfgT.grow (c : CfgT) : Int := c.2.2.2.2.2.2.2.2.2.2.2.2.2.2.2.2.2.2.2.2.2.2.2.1
abbrev CfgT.intv (c : CfgT) : Int := c.2.2.2.2.2.2.2.2.2.2.2.2.2.2.2.2.2.2.2.2.2.2.2.2.1
def scRight (c : CfgT) (s : ScT) : Prop := c.min ≤ s.1 ∧ s.1 ≤ c.max ∧ 0 ≤ s.2.1 ∧ s.2.1 < c.intv ∧ (0 ≤ s.2.2.1 ∧ s.2.2.1 ≤ 4611686018427387904) ∧ (0 ≤ s.2.2.2.1 ∧ s.2.2.2.1 ≤ 4611686018427387904) ∧ s.2.2.2.1 ≤ s.2.2.1
instance (c : CfgT) (s : ScT) : Decidable (scRight c s) := inferInstanceAs (Decidable (_ ∧ _))
noncomputable def O_95 : Orc := (orm c_96 (orm c_97 (orm c_9d (orm c_9f (orm c_99 c_9b)))))
theorem okO_95 : OrcOk PR O_95 := (orm_ok ok_96 (orm_ok ok_97 (orm_ok ok_9d (orm_ok ok_9f (orm_ok ok_99 ok_9b)))))
abbrev fa_95 : Fm := .unit
abbrev fr_95 : Fm := .b
noncomputable def F_95  : Option (Bool) :=
 ((F_97 ([(3:Int), (2:Int), (2:Int)], ((0:Int), ((2:Int), ((0:Int), ((0:Int), ((0:Int), ((981668463:Int), ((0:Int), ((1065336439:Int), ((841731191:Int), ((0:Int), ((1065353216:Int), ((1:Int), ((6:Int), ((1:Int), ((1:Int), ((5:Int), ((0:Int), (false, ((3:Int), ((2:Int), ((3:Int), ((3:Int), ((2:Int), ((2:Int), ((1:Int), ())))))))))))))))))))))))))))).bind fun r0 =>
 let x1 : List Int := (List.take (List.length r0.1) r0.1)
 ((F_9d x1)).bind fun r2 =>
 bif (decide (((1:Nat) + (List.length r0.1)) ≤ (1073741824:Nat))) then
 ((F_9d (List.take ((1:Nat) + (List.length r0.1)) ((1:Int) :: (List.append._f [] () x1))))).bind fun r3 =>
 bif (r0.2.1 == (0:Int)) then
 bif (r2.2.1 == (0:Int)) then
 ((F_9f ((List.take (List.length r2.1.1) r2.1.1), r2.1.2) ([(3:Int), (2:Int), (2:Int)], ((0:Int), ((2:Int), ((0:Int), ((0:Int), ((0:Int), ((981668463:Int), ((0:Int), ((1065336439:Int), ((841731191:Int), ((0:Int), ((1065353216:Int), ((1:Int), ((6:Int), ((1:Int), ((1:Int), ((5:Int), ((0:Int), (false, ((3:Int), ((2:Int), ((3:Int), ((3:Int), ((2:Int), ((2:Int), ((1:Int), ())))))))))))))))))))))))))))).bind fun r4 =>
 bif r4 then
 bif (r3.2.1 == (20:Int)) then
 ((F_9b ([(3:Int), (2:Int), (2:Int)], ((0:Int), ((2:Int), ((0:Int), ((0:Int), ((0:Int), ((981668463:Int), ((0:Int), ((1065336439:Int), ((841731191:Int), ((0:Int), ((1065353216:Int), ((1:Int), ((6:Int), ((1:Int), ((1:Int), ((5:Int), ((0:Int), (false, ((3:Int), ((2:Int), ((3:Int), ((3:Int), ((2:Int), ((2:Int), ((1:Int), ())))))))))))))))))))))))))))).bind fun r5 =>
 (some (decide (r5 > (0:Int))))
 else
 (some false)
 else
 (some false)
 else
 (some false)
 else
 (some false)
 else
 none
noncomputable def G_95 : T fa_95 → TH hN0 → Option (Bool) := fun x y => F_95
noncomputable def c_95 : Orc := ent i_95 [] 0 (sp fa_95 hN0 fr_95 hN0 G_95 (outN fr_95))
theorem ok_95 : OrcOk PR c_95 := fnT okO_95 mixed p_95 (by kernel_rfl) (by kernel_rfl) (L := L0) (kp := false) (by kernel_rfl) (inn := (innN fr_95)) (out := (outN fr_95)) (fun _ _ => rfl) (loopsL (l := []) (by kernel_rfl) trivial) (fun x y => by kernel_rfl)
theorem gdP {l : List Int} {P : Int → Prop} (h : ∀ e ∈ l, P e) (h0 : P 0) (k : Nat) : P (l.getD k 0) := by
  rw [List.getD_eq_getElem?_getD]
  cases hl : l[k]? with
  | none => exact h0
  | some e => exact h e (List.mem_of_getElem? hl)
theorem small (w : List Int) (h : (w.length = 2 ∨ w.length = 3 ∨ w.length = 4)) (h2 : ∀ e ∈ w, 1 ≤ e ∧ e ≤ 4) : wok w ∧ pr w (w.length - 1) ≤ 65536 ∧ ∀ B : Int, 1 ≤ B ∧ B ≤ 4 → ∀ j, j < w.length → B * w.getD j 0 ≤ 262144 := by
  have hj : ∀ j, j < w.length → 1 ≤ w.getD j 0 ∧ w.getD j 0 ≤ 4 := fun j hj => by
    rw [List.getD_eq_getElem?_getD, List.getElem?_eq_getElem hj]
    exact h2 _ (List.getElem_mem hj)
  refine ⟨⟨by omega, by omega, fun j k => by have := hj j k; omega⟩, ?_, fun B hB j k => ?_⟩
  · have hb : ∀ i, i < w.length → 0 ≤ pr w i ∧ pr w i ≤ i * 20 := by
      intro i
      induction i with
      | zero => intro _; simp [pr]
      | succ i ih =>
        intro hi
        have := ih (by omega)
        have k1 := hj i (by omega)
        have k2 := hj (i + 1) hi
        have m1 := Int.mul_le_mul (a := w.getD i 0 + 1) (b := w.getD (i + 1) 0) (c := 5) (d := 4) (by omega) k2.2 (by omega) (by omega)
        have m2 : 0 ≤ (w.getD i 0 + 1) * w.getD (i + 1) 0 := Int.mul_nonneg (by omega) (by omega)
        simp only [pr]; push_cast; omega
    have := hb (w.length - 1) (by omega)
    omega
  · have k2 := hj j k
    have m1 := Int.mul_le_mul (a := B) (b := w.getD j 0) (c := 4) (d := 4) (by omega) k2.2 (by omega) (by omega)
    omega
theorem wlist_small (k : Int) : ((wlist k).length = 2 ∨ (wlist k).length = 3 ∨ (wlist k).length = 4) ∧ ∀ e ∈ wlist k, 1 ≤ e ∧ e ≤ 4 := by
  unfold wlist
  split; · exact ⟨by decide, by decide⟩
  split; · exact ⟨by decide, by decide⟩
  split; · exact ⟨by decide, by decide⟩
  split; · exact ⟨by decide, by decide⟩
  split; · exact ⟨by decide, by decide⟩
  exact ⟨by decide, by decide⟩
theorem cfg_W {a b c d s : Int} (hs : 0 ≤ s ∧ s < 18446744073709551616) : cW (cfg a b c d s) := by
  refine ⟨⟨?_, ?_, ?_, ?_, ?_, ?_⟩, hs, ?_⟩
  · exact gdP (P := u32R) (by decide) (by decide) _
  · exact gdP (P := u32R) (by decide) (by decide) _
  · exact gdP (P := u32R) (by decide) (by decide) _
  · exact gdP (P := u32R) (by decide) (by decide) _
  · exact gdP (P := u32R) (by decide) (by decide) _
  · exact gdP (P := u32R) (by decide) (by decide) _
  · exact gdP (P := fun e => 0 ≤ e) (by decide) (by decide) _
theorem cfg_right {a b c d s : Int} (ha : 0 ≤ a ∧ a ≤ 255) (hb : 0 ≤ b ∧ b ≤ 255) (hc : 0 ≤ c ∧ c ≤ 255) (hd : 0 ≤ d ∧ d ≤ 255) : right (cfg a b c d s) := by
  obtain ⟨h1, h2⟩ := wlist_small (a % 6)
  obtain ⟨k1, k2, k3⟩ := small _ h1 h2
  have hm : 0 ≤ c % (a % 25 + 1) ∧ c % (a % 25 + 1) < a % 25 + 1 := ⟨Int.emod_nonneg _ (by omega), Int.emod_lt_of_pos _ (by omega)⟩
  refine ⟨k1, k2, ?_, ?_, ?_, k3 _ ?_⟩
  · simp only [kindsP, cfg, CfgT.f, CfgT.act, CfgT.loss, CfgT.opt, CfgT.sched]; omega
  · refine ⟨gdP (P := fun e => e < fInf) (by decide) (by decide) _, gdP (P := fun e => e < 1065353216) (by decide) (by decide) _, gdP (P := fun e => e < 1065353216) (by decide) (by decide) _, ⟨?_, gdP (P := fun e => e < fInf) (by decide) (by decide) _⟩, gdP (P := fun e => e < fInf) (by decide) (by decide) _, gdP (P := fun e => e < fInf) (by decide) (by decide) _⟩
    have : c / 24 % 2 = 0 ∨ c / 24 % 2 = 1 := by omega
    simp only [cfg, CfgT.eps]
    rcases this with h | h <;> rw [h] <;> decide
  · have hdr : (cfg a b c d s).drop < 2147483648 := gdP (P := fun e => e < 2147483648) (by decide) (by decide) _
    refine ⟨?_, ?_, ?_, ?_, ?_, ?_, ?_, ?_, ?_, ?_, ?_, hdr⟩
    all_goals simp only [cfg, CfgT.total, CfgT.warm, CfgT.batch, CfgT.accum, CfgT.ma, CfgT.mi, CfgT.log, CfgT.bk, CfgT.gr, CfgT.itv, CfgT.save]
    all_goals omega
  · simp only [cfg, CfgT.batch]; omega
theorem not_isE {b : List Int} {c : CfgT} (h : b.getD 0 0 ≠ 65) : ¬ isE b c := by
  intro k
  have := (isE_len k).2.1
  cases b with
  | nil => simp at this
  | cons x l => simp at this h; exact h this.1
theorem enc_read {c : CfgT} (hr : right c) (hc : cW c) : F_9d (enc_ c) = some (c, 0, ()) := by
  rw [cread (enc_byt hr) (by rw [enc_len]; have : c.1.length ≤ 65 := hr.1.2.1; simp only [CfgT.w]; omega), rd_enc hr hc]
def cfg0 : CfgT := ([3, 2, 2], 0, 2, 0, 0, 0, 981668463, 0, 1065336439, 841731191, 0, 1065353216, 1, 6, 1, 1, 5, 0, false, 3, 2, 3, 3, 2, 2, 1, ())
theorem cfg0_eq : cfg0 = cfg 1 2 3 4 5 := by kernel_rfl
theorem known_eq : F_95 = some true := by
  have hr : right cfg0 := cfg0_eq ▸ cfg_right (by omega) (by omega) (by omega) (by omega)
  have hc : cW cfg0 := cfg0_eq ▸ cfg_W (by omega)
  have hput : F_97 ([3, 2, 2], 0, 2, 0, 0, 0, 981668463, 0, 1065336439, 841731191, 0, 1065353216, 1, 6, 1, 1, 5, 0, false, 3, 2, 3, 3, 2, 2, 1, ()) = some (enc_ cfg0, 0, ()) := by
    show F_97 cfg0 = _
    rw [cput_eq hc.1 hc.2, if_pos hr]
  have hlen : (enc_ cfg0).length = 82 := by rw [enc_len]; rfl
  have h1 : F_9d (List.take (1 + 82) (1 :: List.append._f [] () (enc_ cfg0))) = some (zCfg, 20, ()) := by
    have e : List.take (1 + 82) (1 :: List.append._f [] () (enc_ cfg0)) = 1 :: enc_ cfg0 := by
      show List.take (1 + 82) (1 :: enc_ cfg0) = _
      exact List.take_of_length_le (by simp [hlen])
    rw [e, cread ?_ (by simp [hlen])]
    · unfold rd; rw [if_neg (not_isE (by simp))]
    · intro i
      cases i with
      | zero => simp
      | succ i => simpa using enc_byt hr i
  have hs : F_9f cfg0 ([3, 2, 2], 0, 2, 0, 0, 0, 981668463, 0, 1065336439, 841731191, 0, 1065353216, 1, 6, 1, 1, 5, 0, false, 3, 2, 3, 3, 2, 2, 1, ()) = some true := by
    rw [same_eq _ _ (by decide)]; exact congrArg some (decide_eq_true rfl)
  have hp : F_9b ([3, 2, 2], 0, 2, 0, 0, 0, 981668463, 0, 1065336439, 841731191, 0, 1065353216, 1, 6, 1, 1, 5, 0, false, 3, 2, 3, 3, 2, 2, 1, ()) = some 14 := by
    show F_9b cfg0 = _
    rw [cparams_eq hc.1, if_pos hr]; rfl
  unfold F_95
  rw [hput]
  simp only [Option.bind_some, List.take_length, enc_read hr hc, hlen, h1, eta2]
  rw [hs, hp]
  rfl
end Go.Proofs.Ytkmkhcmfpbffjaa.VI
