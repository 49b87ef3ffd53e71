import Derived.Test.YtkmkhcmfpbffjaaGreatT611a7a69
namespace Go.Proofs.YtkmkhcmfpbffjaaGreat.VI
set_option linter.unusedVariables false
set_option linter.unusedSimpArgs false
set_option maxRecDepth 100000
set_option maxHeartbeats 4000000
def turnS (f a : Int) : Int := if sg f a then a % (2 * TT f) - TT f else a % (2 * TT f) + TT f
theorem turn_wf' (f : Int) {a : Int} (h : w32 a) : wf f (turnS f a) := by
  have hb := mod_bd f a
  have hs := sg_iff f a h.1
  have hT := TT_cs f
  unfold turnS
  cases hq : sg f a
  · have : ¬ TT f ≤ a % (2 * TT f) := fun k => by rw [hs.2 k] at hq; cases hq
    simp; exact ⟨by omega, by omega⟩
  · have := hs.1 hq; simp; exact ⟨by omega, by omega⟩
theorem turn_eq2 (f : Int) {a : Int} (h : w32 a) : F_960 f a = some (turnS f a) := turn_eq f h
def subS (f mode a b : Int) : Int × ExcT × Unit :=
  if nan f a || nan f b then (NN f, (loud f a || loud f b, false, false, false, false, ()), ()) else addS f mode a (turnS f b)
theorem sub_eq (f mode : Int) {a b : Int} (ha : w32 a) (hb : w32 b) : F_934 f mode a b = some (subS f mode a b) := by
  unfold F_934 subS
  rw [snans_eq f [a, b] (by simp) (by simpa using ⟨ha, hb⟩), turn_eq2 f hb]
  simp only [Option.bind_some, List.any_cons, List.any_nil, Bool.or_false]
  rw [add_eq f mode ha (wf_w (turn_wf' f hb))]
  cases nan f a <;> cases nan f b <;> rfl
theorem sub_wf (f mode a b : Int) : wf f (subS f mode a b).1 := by
  unfold subS; split
  · exact NN_wf f
  · exact add_wf _ _ _ _
def fintS (f mode v : Int) : Int × ExcT × Unit := pk f mode (decide (v < 0)) 0 (if v < 0 then -v else v) false
theorem fint_eq (f mode : Int) {v : Int} (h : -9223372036854775808 ≤ v ∧ v ≤ 9223372036854775807) : F_930 f mode v = some (fintS f mode v) := by
  unfold F_930 F_956 fintS
  have e : (bif decide (v < 0) then some (IntKind.u64.wrap (0 - IntKind.u64.wrap v)) else some (IntKind.u64.wrap v)) = some (if v < 0 then -v else v) := by
    rw [bif_dec]
    by_cases k : v < 0
    · rw [if_pos k, if_pos k, wu64_eq, wu64_eq]; congr 1; omega
    · rw [if_neg k, if_neg k, wu64 (by omega)]
  rw [e]
  simp only [Option.bind_some]
  rw [pack_eq f mode _ _ (show w64 (if v < 0 then -v else v) from ⟨by split <;> omega, by split <;> omega⟩)]
  rfl
def scaleS (f mode a n : Int) : Int × ExcT × Unit :=
  if nan f a then (NN f, (loud f a, false, false, false, false, ()), ())
  else if inff f a || zr f a then (a % (2 * TT f), EXC0, ())
  else pk f mode (sg f a) (xp f a + min (max n (-5000)) 5000) (sig f a) false
theorem scale_eq (f mode : Int) {a : Int} (n : Int) (ha : w32 a) : F_96a f mode a n = some (scaleS f mode a n) := by
  have xa := xp_bd f a
  unfold F_96a F_983 scaleS
  rw [snans_eq f [a] (by simp) (by simpa using ha), mask_eq, isinf_eq f ha, iszero_eq f ha, of_eq f ha]
  simp only [Option.bind_some, List.any_cons, List.any_nil, Bool.or_false, mn_eq, mx_eq, and_TT f ha.1 ha.2]
  rw [wi64 (by omega), pack_eq f mode _ _ (sig_w64 f a), show min (max (xp f a + min (max n (-5000)) 5000) (-10000)) 10000 = xp f a + min (max n (-5000)) 5000 by omega]
  rcases cls f a with ⟨a1, a3, a4⟩ | ⟨a1, a2, a3, a4⟩ | ⟨a1, a2, a3, a4⟩ | ⟨a1, a2, a3, a4⟩ <;> simp only [a1, a3, a4] <;> rfl
def unitsW (mode : Int) (n : Bool) (e N : Int) : Int × Bool :=
  if e + ln N > 40 then (1099511627776, false)
  else (fin1 mode n (qS N (-e)) (halfS N (-e)) (restS N (-e) false), halfS N (-e) || restS N (-e) false)
theorem toq_bd {e N : Int} (hN : 0 ≤ N) (h : ¬ e + ln N > 40) : 0 ≤ qS N (-e) ∧ qS N (-e) ≤ 1099511627776 := by
  unfold qS
  by_cases h0 : N = 0
  · subst h0; split <;> simp
  have hp : 0 < N := by omega
  rw [ln_pos hp] at h
  have hlt := lg_lt hp
  split
  · have c := p2_pos (- -e).toNat
    refine ⟨Int.mul_nonneg hN (by omega), ?_⟩
    have : N * 2 ^ (- -e).toNat < 2 ^ (lg N + 1) * 2 ^ (- -e).toNat := Int.mul_lt_mul_of_pos_right hlt c
    rw [← p2_add] at this
    have := p2_le (show lg N + 1 + (- -e).toNat ≤ 40 by omega)
    rw [show (2 : Int) ^ 40 = 1099511627776 from rfl] at this
    omega
  · have c := p2_pos (-e).toNat
    refine ⟨Int.ediv_nonneg hN (by omega), ?_⟩
    have : N / 2 ^ (-e).toNat < 2 ^ 40 := by
      rw [Int.ediv_lt_iff_lt_mul c, ← p2_add]
      have := p2_le (show lg N + 1 ≤ 40 + (-e).toNat by omega)
      omega
    rw [show (2 : Int) ^ 40 = 1099511627776 from rfl] at this
    omega
def tointS (f mode a : Int) : Int × ExcT × Unit :=
  if nan f a || inff f a then (-2147483648, (true, false, false, false, false, ()), ())
  else if (if sg f a then -(unitsW mode (sg f a) (xp f a) (sig f a)).1 else (unitsW mode (sg f a) (xp f a) (sig f a)).1) = IntKind.wrap .i32 (if sg f a then -(unitsW mode (sg f a) (xp f a) (sig f a)).1 else (unitsW mode (sg f a) (xp f a) (sig f a)).1)
    then (IntKind.wrap .i32 (if sg f a then -(unitsW mode (sg f a) (xp f a) (sig f a)).1 else (unitsW mode (sg f a) (xp f a) (sig f a)).1), (false, false, false, false, (unitsW mode (sg f a) (xp f a) (sig f a)).2, ()), ())
  else (-2147483648, (true, false, false, false, false, ()), ())
theorem wunits_eq (mode : Int) (n : Bool) {e N : Int} (hN : w64 N) (he : -1000 ≤ e ∧ e ≤ 1000) : F_981 (n, e, N, false, ()) mode = some ((unitsW mode n e N).1, (unitsW mode n e N).2, ()) ∧ 0 ≤ (unitsW mode n e N).1 ∧ (unitsW mode n e N).1 ≤ 1099511627777 := by
  have hl := ln_bd (k := 64) hN.1 (by have : (2 : Int) ^ 64 = 18446744073709551616 := rfl; have := hN.2; omega)
  unfold F_981 unitsW
  dsimp only
  rw [len_eq hN]
  simp only [Option.bind_some, bif_dec]
  rw [wi64 (n := e + ln N) (by omega), wi64 (n := 0 - e) (by omega)]
  by_cases h : e + ln N > 40
  · rw [if_pos h, if_pos h]; exact ⟨rfl, by decide, by decide⟩
  · rw [if_neg h, if_neg h]
    have qb := toq_bd hN.1 h
    rw [show (0 : Int) - e = -e by omega, units_eq hN (by omega) (by omega) false]
    simp only [Option.bind_some]
    rw [up_eq mode n ⟨qb.1, by omega⟩ (halfS N (-e)) (restS N (-e) false) (leftS (halfS N (-e)) (restS N (-e) false)) rfl]
    simp only [Option.bind_some]
    rw [wu64 (n := qS N (-e) + 1) (by omega)]
    unfold fin1
    generalize upS mode n (decide (qS N (-e) % 2 = 1)) (halfS N (-e)) (restS N (-e) false) = b
    refine ⟨?_, ?_, ?_⟩
    · cases b <;> cases halfS N (-e) <;> cases restS N (-e) false <;> rfl
    · cases b <;> simp <;> omega
    · cases b <;> simp <;> omega
theorem toint_eq (f mode : Int) {a : Int} (ha : w32 a) : F_959 f mode a = some (tointS f mode a) := by
  have xa := xp_bd f a
  have hw := wunits_eq mode (sg f a) (sig_w64 f a) (show -1000 ≤ xp f a ∧ xp f a ≤ 1000 by omega)
  have hf := ex_fin f a
  have ft : F_978 f a = some (!(nan f a || inff f a)) := by
    unfold F_978
    rw [parts_eq f ha.1 ha.2, top_eq]
    simp only [Option.bind_some]
    congr 1
    rw [Bool.eq_iff_iff]
    simp only [decide_eq_true_eq, Bool.not_eq_true', Bool.or_eq_false_iff]
    rw [hf]
    unfold nan inff
    simp only [decide_eq_false_iff_not]
    omega
  unfold F_959 tointS
  rw [ft, of_eq f ha]
  simp only [Option.bind_some]
  rw [hw.1]
  simp only [Option.bind_some]
  obtain ⟨h1, h2⟩ := hw.2
  generalize (unitsW mode (sg f a) (xp f a) (sig f a)).1 = q at *
  generalize (unitsW mode (sg f a) (xp f a) (sig f a)).2 = b at *
  rw [wi64 (n := q) (by omega), wi64 (n := 0 - q) (by omega)]
  have hx : (bif sg f a then 0 - q else q) = (if sg f a then -q else q) := by cases sg f a <;> simp
  rw [hx]
  have hb : -1099511627777 ≤ (if sg f a then -q else q) ∧ (if sg f a then -q else q) ≤ 1099511627777 := by split <;> omega
  generalize (if sg f a then -q else q) = r at *
  have hw32 : IntKind.i64.wrap (IntKind.i32.wrap r) = IntKind.i32.wrap r := by
    apply wi64
    simp only [IntKind.wrap, IntKind.bits, IntKind.signed]; simp
    split <;> omega
  rw [hw32, bif_eq]
  cases nan f a <;> cases inff f a <;> simp only [Bool.or_true, Bool.or_false, Bool.not_true, Bool.not_false, cond_true, cond_false, if_true, if_false, Bool.false_eq_true] <;> (try rfl)
  by_cases k : r = IntKind.i32.wrap r
  · rw [if_pos k, if_pos k]
  · rw [if_neg k, if_neg k]
set_option maxHeartbeats 8000000
def divS (f mode a b : Int) : Int × ExcT × Unit :=
  if nan f a || nan f b then (NN f, (loud f a || loud f b, false, false, false, false, ()), ())
  else if (zr f a && zr f b) || (inff f a && inff f b) then (NN f, (true, false, false, false, false, ()), ())
  else if inff f a then (sgn f (!(sg f a == sg f b)) + IN f, EXC0, ())
  else if inff f b || zr f a then (sgn f (!(sg f a == sg f b)), EXC0, ())
  else if zr f b then (sgn f (!(sg f a == sg f b)) + IN f, (false, true, false, false, false, ()), ())
  else pk f mode (!(sg f a == sg f b)) (xp f a - (61 - lg (sig f a)) - xp f b) (sig f a * 2 ^ (61 - lg (sig f a)) / sig f b) (decide (sig f a * 2 ^ (61 - lg (sig f a)) % sig f b ≠ 0))
theorem div_eq (f mode : Int) {a b : Int} (ha : w32 a) (hb : w32 b) : F_941 f mode a b = some (divS f mode a b) := by
  have xa := xp_bd f a
  have xb := xp_bd f b
  have sa := sig_bd f a
  have sb := sig_bd f b
  have fb := fmt_bd f
  have c61 : (2 : Int) ^ 62 = 4611686018427387904 := rfl
  have ka := kl_le f a
  have kb := kl_le f b
  have na : nan f a = decide (kl f a ≥ 4) := by unfold nan; exact decide_eq_decide.2 (kl_nan f a).symm
  have nb : nan f b = decide (kl f b ≥ 4) := by unfold nan; exact decide_eq_decide.2 (kl_nan f b).symm
  have za : zr f a = decide (kl f a = 0) := by unfold zr; exact decide_eq_decide.2 (kl_zero f a).symm
  have zb : zr f b = decide (kl f b = 0) := by unfold zr; exact decide_eq_decide.2 (kl_zero f b).symm
  have ia : inff f a = decide (kl f a = 3) := by unfold inff; exact decide_eq_decide.2 (kl_inf f a).symm
  have ib : inff f b = decide (kl f b = 3) := by unfold inff; exact decide_eq_decide.2 (kl_inf f b).symm
  have road : sig f a ≠ 0 → sig f b ≠ 0 →
      ((F_95d f a).bind fun r26 =>
        (F_95d f b).bind fun r28 =>
        (F_93c r26.2.2.1).bind fun r31 =>
        (F_96f r26.2.2.1 (IntKind.wrap .i64 ((0:Int) - (IntKind.wrap .i64 ((62:Int) - r31))))).bind fun r33 =>
        bif (r28.2.2.1 == (0:Int)) then none else
        bif (r28.2.2.1 == (0:Int)) then none else
        (F_955 f mode (!(sg f a == sg f b)) (IntKind.wrap .i64 ((IntKind.wrap .i64 (r26.2.1 - (IntKind.wrap .i64 ((62:Int) - r31)))) - r28.2.1)) (IntKind.wrap .u64 (Int.tdiv r33.1 r28.2.2.1)) ((Int.tmod r33.1 r28.2.2.1) != (0:Int))).bind fun r34 =>
        (some r34)) = some (pk f mode (!(sg f a == sg f b)) (xp f a - (61 - lg (sig f a)) - xp f b) (sig f a * 2 ^ (61 - lg (sig f a)) / sig f b) (decide (sig f a * 2 ^ (61 - lg (sig f a)) % sig f b ≠ 0))) := by
    intro h1 h2
    have hp : 0 < sig f a := by omega
    have hq : 0 < sig f b := by omega
    have hl := lg_bd (k := 62) hp (by omega)
    have hlt := lg_lt hp
    have hle := lg_le hp
    have hb2 : sig f a * 2 ^ (61 - lg (sig f a)) < 2 ^ 62 := by
      have := Int.mul_lt_mul_of_pos_right hlt (p2_pos (61 - lg (sig f a)))
      rw [← p2_add, show lg (sig f a) + 1 + (61 - lg (sig f a)) = 62 by omega] at this
      exact this
    have hb0 : 0 ≤ sig f a * 2 ^ (61 - lg (sig f a)) := Int.mul_nonneg sa.1 (by have := p2_pos (61 - lg (sig f a)); omega)
    rw [of_eq f ha, of_eq f hb]
    simp only [Option.bind_some]
    rw [len_eq (sig_w64 f a), ln_pos hp]
    simp only [Option.bind_some]
    rw [wi64 (n := 62 - ((lg (sig f a) : Int) + 1)) (by omega), wi64 (n := 0 - (62 - ((lg (sig f a) : Int) + 1))) (by omega)]
    have hs : F_96f (sig f a) (0 - (62 - ((lg (sig f a) : Int) + 1))) = some (sig f a * 2 ^ (61 - lg (sig f a)), false, ()) := by
      by_cases h0 : lg (sig f a) = 61
      · rw [h0, show 0 - (62 - (((61 : Nat) : Int) + 1)) = 0 by omega, shr_eq (sig_w64 f a) (by omega)]; simp
      · have := shl_eq (sig_w64 f a) (n := 61 - (lg (sig f a) : Int)) (by omega) (by
          rw [show (61 - (lg (sig f a) : Int)).toNat = 61 - lg (sig f a) by omega]; omega)
        rw [show 0 - (62 - ((lg (sig f a) : Int) + 1)) = -(61 - (lg (sig f a) : Int)) by omega, this]
        rw [show (61 - (lg (sig f a) : Int)).toNat = 61 - lg (sig f a) by omega]
    rw [hs]
    simp only [Option.bind_some]
    have hz : (sig f b == 0) = false := beq_false_of_ne h2
    rw [hz]
    simp only [cond_false]
    rw [tdiv_nn hb0, tmod_nn hb0]
    have hd0 : 0 ≤ sig f a * 2 ^ (61 - lg (sig f a)) / sig f b := Int.ediv_nonneg hb0 (by omega)
    have hd1 : sig f a * 2 ^ (61 - lg (sig f a)) / sig f b ≤ sig f a * 2 ^ (61 - lg (sig f a)) := Int.ediv_le_self _ hb0
    rw [wu64 (n := sig f a * 2 ^ (61 - lg (sig f a)) / sig f b) (by omega), wi64 (n := xp f a - (62 - ((lg (sig f a) : Int) + 1))) (by omega), wi64 (by omega)]
    rw [pack_eq f mode _ _ (show w64 (sig f a * 2 ^ (61 - lg (sig f a)) / sig f b) from ⟨hd0, by omega⟩)]
    simp only [Option.bind_some]
    rw [show min (max (xp f a - (62 - ((lg (sig f a) : Int) + 1)) - xp f b) (-10000)) 10000 = xp f a - (61 - lg (sig f a)) - xp f b by omega]
    have : (sig f a * 2 ^ (61 - lg (sig f a)) % sig f b != 0) = decide (sig f a * 2 ^ (61 - lg (sig f a)) % sig f b ≠ 0) := by rw [Bool.eq_iff_iff]; simp
    rw [this]
  unfold F_941 F_96d divS
  rw [snans_eq f [a, b] (by simp) (by simpa using ⟨ha, hb⟩), neg_eq f ha, neg_eq f hb, class_eq f ha.1 ha.2, class_eq f hb.1 hb.2, nan_w]
  simp only [Option.bind_some, List.any_cons, List.any_nil, Bool.or_false, inf_eq, zero_eq]
  have hsa : nan f a = false → inff f a = false → zr f a = false → sig f a ≠ 0 := fun h1 h2 h3 k => by rw [(sig_zero f a h1 h2).1 k] at h3; cases h3
  have hsb : nan f b = false → inff f b = false → zr f b = false → sig f b ≠ 0 := fun h1 h2 h3 k => by rw [(sig_zero f b h1 h2).1 k] at h3; cases h3
  rw [na, nb] at *
  rw [za, zb, ia, ib] at *
  generalize pk f mode _ _ _ _ = W at *
  generalize loud f a = la at *
  generalize loud f b = lb at *
  rcases (show kl f a = 0 ∨ kl f a = 1 ∨ kl f a = 2 ∨ kl f a = 3 ∨ kl f a ≥ 4 by omega) with p | p | p | p | p <;>
  rcases (show kl f b = 0 ∨ kl f b = 1 ∨ kl f b = 2 ∨ kl f b = 3 ∨ kl f b ≥ 4 by omega) with q | q | q | q | q
  all_goals (first | (have p' : decide (kl f a ≥ 4) = true := decide_eq_true p) | (have p' : decide (kl f a ≥ 4) = false := decide_eq_false (by omega)))
  all_goals (first | (have q' : decide (kl f b ≥ 4) = true := decide_eq_true q) | (have q' : decide (kl f b ≥ 4) = false := decide_eq_false (by omega)))
  all_goals rw [p', q']
  all_goals (try (have r1 := road (hsa (by rw [p']) (by rw [p]; rfl) (by rw [p]; rfl)) (hsb (by rw [q']) (by rw [q]; rfl) (by rw [q]; rfl))))
  all_goals clear road hsa hsb na nb za zb ia ib ka kb xa xb
  all_goals (first
    | (rw [Bool.true_or]; rfl)
    | (rw [Bool.or_true]; rfl)
    | (rw [p, q]; rfl)
    | (rw [p, q]; exact r1)
    | skip)
theorem fabove_eq {a b : Int} (ha : w32 a) (hb : w32 b) : F_93e a b = some (lt 2 b a) := by
  unfold F_93e; rw [less_eq 2 hb ha]; rfl
theorem fisnan_eq {a : Int} (ha : w32 a) : F_935 a = some (nan 2 a) := by
  unfold F_935; rw [isnan_eq 2 ha]; rfl
def mulf (a b : Int) : Int := (mulS 2 0 a b).1
def subf (a b : Int) : Int := (subS 2 0 a b).1
def divf (a b : Int) : Int := (divS 2 0 a b).1
def intf (n : Int) : Int := (fintS 2 0 n).1
def scalef (a n : Int) : Int := (scaleS 2 0 a n).1
def wholef (a : Int) : Int := (tointS 2 0 a).1
theorem mulf_w (a b : Int) : w32 (mulf a b) := wf_w (mul_wf 2 0 a b)
theorem subf_w (a b : Int) : w32 (subf a b) := wf_w (sub_wf 2 0 a b)
theorem div_wf (f mode a b : Int) : wf f (divS f mode a b).1 := by
  unfold divS
  split
  · exact NN_wf f
  split
  · exact NN_wf f
  split
  · exact infs_wf f _
  split
  · have := sgn_wf f (!(sg f a == sg f b)) (x := 0) ⟨Int.le_refl _, by have := TT_cs f; omega⟩
    rw [Int.add_zero] at this
    exact this
  split
  · exact infs_wf f _
  · exact pk_wf _ _ _ _ _ _ (Int.ediv_nonneg (Int.mul_nonneg (sig_bd f a).1 (by have := p2_pos (61 - lg (sig f a)); omega)) (sig_bd f b).1)
theorem divf_w (a b : Int) : w32 (divf a b) := wf_w (div_wf 2 0 a b)
theorem fint_wf (f mode v : Int) : wf f (fintS f mode v).1 := pk_wf _ _ _ _ _ _ (by split <;> omega)
theorem intf_w (n : Int) : w32 (intf n) := wf_w (fint_wf 2 0 n)
theorem scale_wf (f mode a n : Int) : wf f (scaleS f mode a n).1 := by
  unfold scaleS
  split
  · exact NN_wf f
  split
  · have := mod_bd f a; exact ⟨this.1, this.2.1⟩
  · exact pk_wf _ _ _ _ _ _ (sig_bd f a).1
theorem scalef_w (a n : Int) : w32 (scalef a n) := wf_w (scale_wf 2 0 a n)
theorem turn2_w {a : Int} (h : w32 a) : w32 (turnS 2 a) := wf_w (turn_wf' 2 h)
theorem wholef_bd (a : Int) : -2147483648 ≤ wholef a ∧ wholef a ≤ 2147483647 := by
  have wr : ∀ z : Int, -2147483648 ≤ IntKind.wrap .i32 z ∧ IntKind.wrap .i32 z ≤ 2147483647 := fun z => by
    simp only [IntKind.wrap, IntKind.bits, IntKind.signed]; simp
    split <;> omega
  unfold wholef tointS
  generalize (if sg 2 a = true then -(unitsW 0 (sg 2 a) (xp 2 a) (sig 2 a)).1 else (unitsW 0 (sg 2 a) (xp 2 a) (sig 2 a)).1) = z
  by_cases h1 : (nan 2 a || inff 2 a) = true
  · rw [if_pos h1]; exact ⟨by decide, by decide⟩
  rw [if_neg h1]
  by_cases h2 : z = IntKind.wrap .i32 z
  · rw [if_pos h2]; exact wr z
  · rw [if_neg h2]; exact ⟨by decide, by decide⟩
theorem fmul_eq {a b : Int} (ha : w32 a) (hb : w32 b) : F_93f a b = some (mulf a b) := by
  unfold F_93f; rw [mul_eq 2 0 ha hb]; rfl
theorem fsub_eq {a b : Int} (ha : w32 a) (hb : w32 b) : F_916 a b = some (subf a b) := by
  unfold F_916; rw [sub_eq 2 0 ha hb]; rfl
theorem fdiv_eq {a b : Int} (ha : w32 a) (hb : w32 b) : F_918 a b = some (divf a b) := by
  unfold F_918; rw [div_eq 2 0 ha hb]; rfl
theorem fsint_eq {n : Int} (h : -9223372036854775808 ≤ n ∧ n ≤ 9223372036854775807) : F_912 n = some (intf n) := by
  unfold F_912; rw [fint_eq 2 0 h]; rfl
theorem fscale_eq {a : Int} (n : Int) (ha : w32 a) : F_93d a n = some (scalef a n) := by
  unfold F_93d; rw [scale_eq 2 0 n ha]; rfl
theorem fwhole_eq {a : Int} (ha : w32 a) : F_959 2 0 a = some (tointS 2 0 a) := toint_eq 2 0 ha
theorem xminus {a : Int} (h : w32 a) : bits .xor .u32 (bits .and .u32 a 4294967295) 2147483648 = turnS 2 a := by
  have e : F_960 2 a = some (bits .xor .u32 (bits .and .u32 a 4294967295) 2147483648) := by
    unfold F_960 F_967 F_977
    rfl
  rw [turn_eq2 2 h] at e
  exact (Option.some.inj e).symm
theorem sg2 {a : Int} (h : w32 a) : (bits .and .u32 (a / 2147483648) 1 == (1 : Int)) = sg 2 a := by
  have e := and_mask32 (a / 2147483648) 1 (by have := h.1; omega) (by have := h.2; omega) (by decide)
  rw [show (2 : Int) ^ 1 - 1 = 1 from rfl] at e
  rw [e, Bool.eq_iff_iff, sg_iff 2 a h.1]
  have : TT 2 = 2147483648 := rfl
  have h1 := h.1
  have h2 := h.2
  rw [this]
  simp
  omega
def polyS (x p : Int) (l : List Int) : Int := l.foldl (fun p c => fma p x c) p
theorem polyS_w {x p : Int} (hp : w32 p) : ∀ l : List Int, w32 (polyS x p l)
  | [] => hp
  | c :: l => polyS_w (fma_w p x c) l
theorem take_foldl {x p : Int} (l : List Int) {i : Nat} (h : i < l.length) : polyS x p (l.take (i + 1)) = fma (polyS x p (l.take i)) x (l.getD i 0) := by
  have e : l.take (i + 1) = l.take i ++ [l.getD i 0] := by
    rw [List.take_add_one, List.getElem?_eq_getElem h, List.getD_eq_getElem?_getD, List.getElem?_eq_getElem h]; rfl
  rw [e]; unfold polyS; rw [List.foldl_append]; rfl
theorem poly_eq {x p : Int} (hx : w32 x) (hp : w32 p) (l : List Int) (hl : ∀ c ∈ l, w32 c) (hn : l.length ≤ 100) : F_940 x p l = some (polyS x p l) := by
  have key := lim_seq (st := st_940_0) (fun i => ((x, (polyS x p (l.take i), (l, ((l.length : Int), ((i : Int), ()))))), ())) (b := ((polyS x p (l.take l.length), ()), ())) l.length
    (fun i hi R kn ko => by
      unfold st_940_0
      dsimp only
      simp only [List.take_length, bif_dec, Int.toNat_natCast]
      rw [if_pos (by omega), if_pos (by omega), ffma_eq (polyS_w hp _) hx (by
        rw [List.getD_eq_getElem?_getD, List.getElem?_eq_getElem hi]; exact hl _ (List.getElem_mem hi)), take_foldl l hi]
      simp only [Option.bind_some]
      rw [wi64 (n := (i : Int) + 1) (by omega), show ((i + 1 : Nat) : Int) = (i : Int) + 1 by omega])
    (fun R kn ko => by
      unfold st_940_0
      dsimp only
      simp only [List.take_length, bif_dec]
      rw [if_neg (by omega)])
  unfold F_940
  rw [List.take_length]
  rw [show polyS x p (l.take 0) = p from rfl] at key
  rw [List.take_length] at key
  exact (congrArg (fun o => Option.bind o fun r0 => some r0.1.1) key)
def expR (x : Int) : Int := fma (turnS 2 (intf (wholef (mulf x 1069066811)))) 901758606 (fma (turnS 2 (intf (wholef (mulf x 1069066811)))) 1060205056 x)
def expM (x : Int) : Int := scalef (polyS (expR x) 985008993 [1007192201, 1026206379, 1042983595, 1056964608, 1065353216, 1065353216]) (wholef (mulf x 1069066811))
def expS (x : Int) : Int := if nan 2 x then 2143289344 else if lt 2 1118925336 x then 2139095040 else if lt 2 x 3268407733 then 0 else expM x
theorem wlit {a : Int} (h : (decide (0 ≤ a) && decide (a ≤ 4294967295)) = true) : w32 a := by
  simp at h; exact ⟨h.1, by omega⟩
theorem exp_eq {x : Int} (h : w32 x) : F_932 x = some (expS x) := by
  have bw := wholef_bd (mulf x 1069066811)
  unfold F_932 expS
  rw [fisnan_eq h, fabove_eq h (wlit rfl), fabove_eq (wlit rfl) h, fmul_eq h (wlit rfl)]
  simp only [Option.bind_some]
  rw [fwhole_eq (mulf_w _ _)]
  simp only [Option.bind_some]
  rw [show (tointS 2 0 (mulf x 1069066811)).1 = wholef (mulf x 1069066811) from rfl, wi64 (by omega), fsint_eq (by omega)]
  simp only [Option.bind_some]
  rw [xminus (intf_w _), ffma_eq (turn2_w (intf_w _)) (wlit rfl) h]
  simp only [Option.bind_some]
  rw [ffma_eq (turn2_w (intf_w _)) (wlit rfl) (fma_w _ _ _)]
  simp only [Option.bind_some]
  rw [poly_eq (fma_w _ _ _) (wlit rfl) _ (by decide) (by decide)]
  simp only [Option.bind_some]
  rw [fscale_eq _ (polyS_w (wlit rfl) _)]
  cases nan 2 x <;> cases lt 2 1118925336 x <;> cases lt 2 x 3268407733 <;> rfl
theorem exp_w {x : Int} : w32 (expS x) := by
  unfold expS
  split
  · exact wlit rfl
  split
  · exact wlit rfl
  split
  · exact wlit rfl
  · exact scalef_w _ _
def logT (m : Int) : Int := divf (subf m 1065353216) (addf 1073741824 (subf m 1065353216))
def logY (s : Int) : Int := fma s (mulf (polyS (mulf s s) 1046711865 [1049774373, 1053609165, 1059760811]) (mulf s s)) (addf s s)
def logK (e m : Int) : Int := fma (intf e) 1060205056 (fma (intf e) 901758606 (logY (logT m)))
def logE (x : Int) : Int := xp 2 x + ln (sig 2 x) - 1
def logM (x : Int) : Int := if lt 2 1068827891 (scalef x (-logE x)) then logK (logE x + 1) (scalef (scalef x (-logE x)) (-1)) else logK (logE x) (scalef x (-logE x))
def logS (x : Int) : Int := if nan 2 x then 2143289344 else if zr 2 x then 4286578688 else if sg 2 x then 2143289344 else if inff 2 x then x else logM x
theorem log_eq {x : Int} (h : w32 x) : F_917 x = some (logS x) := by
  have xa := xp_bd 2 x
  have hl := ln_bd (k := 64) (sig_bd 2 x).1 (by have := sig_bd 2 x; have : (2 : Int) ^ 64 = 18446744073709551616 := rfl; have := (sig_w64 2 x).2; omega)
  have hr : ∀ e m : Int, w32 m → -10000 ≤ e ∧ e ≤ 10000 →
      ((F_916 m (1065353216:Int)).bind fun r22 =>
            (F_915 (1073741824:Int) r22).bind fun r23 =>
            (F_918 r22 r23).bind fun r24 =>
            (F_93f r24 r24).bind fun r25 =>
            (F_940 r25 (1046711865:Int) [(1049774373:Int), (1053609165:Int), (1059760811:Int)]).bind fun r26 =>
            (F_93f r26 r25).bind fun r27 =>
            (F_915 r24 r24).bind fun r28 =>
            (F_92e r24 r27 r28).bind fun r29 =>
            (F_912 e).bind fun r30 =>
            (F_92e r30 (901758606:Int) r29).bind fun r31 =>
            (F_92e r30 (1060205056:Int) r31).bind fun r32 =>
            (some r32)) = some (logK e m) := by
    intro e m hm he
    rw [fsub_eq hm (wlit rfl)]
    simp only [Option.bind_some]
    rw [fadd_eq (wlit rfl) (subf_w _ _)]
    simp only [Option.bind_some]
    rw [fdiv_eq (subf_w _ _) (addf_w _ _)]
    simp only [Option.bind_some]
    rw [fmul_eq (divf_w _ _) (divf_w _ _)]
    simp only [Option.bind_some]
    rw [poly_eq (mulf_w _ _) (wlit rfl) _ (by decide) (by decide)]
    simp only [Option.bind_some]
    rw [fmul_eq (polyS_w (wlit rfl) _) (mulf_w _ _), fadd_eq (divf_w _ _) (divf_w _ _)]
    simp only [Option.bind_some]
    rw [ffma_eq (divf_w _ _) (mulf_w _ _) (addf_w _ _), fsint_eq (by omega)]
    simp only [Option.bind_some]
    rw [ffma_eq (intf_w _) (wlit rfl) (fma_w _ _ _)]
    simp only [Option.bind_some]
    rw [ffma_eq (intf_w _) (wlit rfl) (fma_w _ _ _)]
    rfl
  unfold F_917 logS
  rw [fisnan_eq h, iszero_eq 2 h, isinf_eq 2 h, unpack_eq 2 h, sg2 h]
  simp only [Option.bind_some]
  rw [len_eq (sig_w64 2 x)]
  simp only [Option.bind_some]
  rw [wi64 (n := xp 2 x + ln (sig 2 x)) (by omega), wi64 (n := xp 2 x + ln (sig 2 x) - 1) (by omega), wi64 (n := 0 - (xp 2 x + ln (sig 2 x) - 1)) (by omega), wi64 (n := xp 2 x + ln (sig 2 x) - 1 + 1) (by omega), fscale_eq _ h]
  simp only [Option.bind_some]
  rw [fabove_eq (scalef_w _ _) (wlit rfl), fscale_eq _ (scalef_w _ _)]
  simp only [Option.bind_some]
  have h1 := hr (xp 2 x + ln (sig 2 x) - 1 + 1) (scalef (scalef x (0 - (xp 2 x + ln (sig 2 x) - 1))) (-1)) (scalef_w _ _) (by omega)
  have h2 := hr (xp 2 x + ln (sig 2 x) - 1) (scalef x (0 - (xp 2 x + ln (sig 2 x) - 1))) (scalef_w _ _) (by omega)
  rw [h1, h2]
  unfold logM logE
  rw [show (0 : Int) - (xp 2 x + ln (sig 2 x) - 1) = -(xp 2 x + ln (sig 2 x) - 1) by omega]
  cases nan 2 x <;> cases zr 2 x <;> cases sg 2 x <;> cases inff 2 x <;> cases lt 2 1068827891 (scalef x (-(xp 2 x + ln (sig 2 x) - 1))) <;> rfl
theorem log_w {x : Int} (h : w32 x) : w32 (logS x) := by
  unfold logS
  split
  · exact wlit rfl
  split
  · exact wlit rfl
  split
  · exact wlit rfl
  split
  · exact h
  · unfold logM; split <;> exact fma_w _ _ _
end Go.Proofs.YtkmkhcmfpbffjaaGreat.VI
