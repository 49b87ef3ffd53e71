import Derived.Test.YtfpjkmgfkaoapaaTc3f3854e
namespace Go.Proofs.Ytfpjkmgfkaoapaa.VI
set_option linter.unusedVariables false
set_option linter.unusedSimpArgs false
set_option maxRecDepth 100000
set_option maxHeartbeats 4000000
def turnS (f a : Int) : Int := if sg f a then a % (2 * TT f) - TT f else a % (2 * TT f) + TT f
theorem turn_wf' (f : Int) {a : Int} (h : w32 a) : wf f (turnS f a) := by
  have hb := mod_bd f a
  have hs := sg_iff f a h.1
  have hT := TT_cs f
  unfold turnS
  cases hq : sg f a
  · have : ¬ TT f ≤ a % (2 * TT f) := fun k => by rw [hs.2 k] at hq; cases hq
    simp; exact ⟨by omega, by omega⟩
  · have := hs.1 hq; simp; exact ⟨by omega, by omega⟩
theorem turn_eq2 (f : Int) {a : Int} (h : w32 a) : F_93f f a = some (turnS f a) := turn_eq f h
def subS (f mode a b : Int) : Int × ExcT × Unit :=
  if nan f a || nan f b then (NN f, (loud f a || loud f b, false, false, false, false, ()), ()) else addS f mode a (turnS f b)
theorem sub_eq (f mode : Int) {a b : Int} (ha : w32 a) (hb : w32 b) : F_921 f mode a b = some (subS f mode a b) := by
  unfold F_921 subS
  rw [snans_eq f [a, b] (by simp) (by simpa using ⟨ha, hb⟩), turn_eq2 f hb]
  simp only [Option.bind_some, List.any_cons, List.any_nil, Bool.or_false]
  rw [add_eq f mode ha (wf_w (turn_wf' f hb))]
  cases nan f a <;> cases nan f b <;> rfl
theorem sub_wf (f mode a b : Int) : wf f (subS f mode a b).1 := by
  unfold subS; split
  · exact NN_wf f
  · exact add_wf _ _ _ _
def fintS (f mode v : Int) : Int × ExcT × Unit := pk f mode (decide (v < 0)) 0 (if v < 0 then -v else v) false
theorem fint_eq (f mode : Int) {v : Int} (h : -9223372036854775808 ≤ v ∧ v ≤ 9223372036854775807) : F_920 f mode v = some (fintS f mode v) := by
  unfold F_920 F_93d fintS
  have e : (bif decide (v < 0) then some (IntKind.u64.wrap (0 - IntKind.u64.wrap v)) else some (IntKind.u64.wrap v)) = some (if v < 0 then -v else v) := by
    rw [bif_dec]
    by_cases k : v < 0
    · rw [if_pos k, if_pos k, wu64_eq, wu64_eq]; congr 1; omega
    · rw [if_neg k, if_neg k, wu64 (by omega)]
  rw [e]
  simp only [Option.bind_some]
  rw [pack_eq f mode _ _ (show w64 (if v < 0 then -v else v) from ⟨by split <;> omega, by split <;> omega⟩)]
  rfl
def scaleS (f mode a n : Int) : Int × ExcT × Unit :=
  if nan f a then (NN f, (loud f a, false, false, false, false, ()), ())
  else if inff f a || zr f a then (a % (2 * TT f), EXC0, ())
  else pk f mode (sg f a) (xp f a + min (max n (-5000)) 5000) (sig f a) false
theorem scale_eq (f mode : Int) {a : Int} (n : Int) (ha : w32 a) : F_957 f mode a n = some (scaleS f mode a n) := by
  have xa := xp_bd f a
  unfold F_957 F_963 scaleS
  rw [snans_eq f [a] (by simp) (by simpa using ha), mask_eq, isinf_eq f ha, iszero_eq f ha, of_eq f ha]
  simp only [Option.bind_some, List.any_cons, List.any_nil, Bool.or_false, mn_eq, mx_eq, and_TT f ha.1 ha.2]
  rw [wi64 (by omega), pack_eq f mode _ _ (sig_w64 f a), show min (max (xp f a + min (max n (-5000)) 5000) (-10000)) 10000 = xp f a + min (max n (-5000)) 5000 by omega]
  rcases cls f a with ⟨a1, a3, a4⟩ | ⟨a1, a2, a3, a4⟩ | ⟨a1, a2, a3, a4⟩ | ⟨a1, a2, a3, a4⟩ <;> simp only [a1, a3, a4] <;> rfl
def unitsW (mode : Int) (n : Bool) (e N : Int) : Int × Bool :=
  if e + ln N > 40 then (1099511627776, false)
  else (fin1 mode n (qS N (-e)) (halfS N (-e)) (restS N (-e) false), halfS N (-e) || restS N (-e) false)
theorem toq_bd {e N : Int} (hN : 0 ≤ N) (h : ¬ e + ln N > 40) : 0 ≤ qS N (-e) ∧ qS N (-e) ≤ 1099511627776 := by
  unfold qS
  by_cases h0 : N = 0
  · subst h0; split <;> simp
  have hp : 0 < N := by omega
  rw [ln_pos hp] at h
  have hlt := lg_lt hp
  split
  · have c := p2_pos (- -e).toNat
    refine ⟨Int.mul_nonneg hN (by omega), ?_⟩
    have : N * 2 ^ (- -e).toNat < 2 ^ (lg N + 1) * 2 ^ (- -e).toNat := Int.mul_lt_mul_of_pos_right hlt c
    rw [← p2_add] at this
    have := p2_le (show lg N + 1 + (- -e).toNat ≤ 40 by omega)
    rw [show (2 : Int) ^ 40 = 1099511627776 from rfl] at this
    omega
  · have c := p2_pos (-e).toNat
    refine ⟨Int.ediv_nonneg hN (by omega), ?_⟩
    have : N / 2 ^ (-e).toNat < 2 ^ 40 := by
      rw [Int.ediv_lt_iff_lt_mul c, ← p2_add]
      have := p2_le (show lg N + 1 ≤ 40 + (-e).toNat by omega)
      omega
    rw [show (2 : Int) ^ 40 = 1099511627776 from rfl] at this
    omega
def tointS (f mode a : Int) : Int × ExcT × Unit :=
  if nan f a || inff f a then (-2147483648, (true, false, false, false, false, ()), ())
  else if (if sg f a then -(unitsW mode (sg f a) (xp f a) (sig f a)).1 else (unitsW mode (sg f a) (xp f a) (sig f a)).1) = IntKind.wrap .i32 (if sg f a then -(unitsW mode (sg f a) (xp f a) (sig f a)).1 else (unitsW mode (sg f a) (xp f a) (sig f a)).1)
    then (IntKind.wrap .i32 (if sg f a then -(unitsW mode (sg f a) (xp f a) (sig f a)).1 else (unitsW mode (sg f a) (xp f a) (sig f a)).1), (false, false, false, false, (unitsW mode (sg f a) (xp f a) (sig f a)).2, ()), ())
  else (-2147483648, (true, false, false, false, false, ()), ())
theorem wunits_eq (mode : Int) (n : Bool) {e N : Int} (hN : w64 N) (he : -1000 ≤ e ∧ e ≤ 1000) : F_962 (n, e, N, false, ()) mode = some ((unitsW mode n e N).1, (unitsW mode n e N).2, ()) ∧ 0 ≤ (unitsW mode n e N).1 ∧ (unitsW mode n e N).1 ≤ 1099511627777 := by
  have hl := ln_bd (k := 64) hN.1 (by have : (2 : Int) ^ 64 = 18446744073709551616 := rfl; have := hN.2; omega)
  unfold F_962 unitsW
  dsimp only
  rw [len_eq hN]
  simp only [Option.bind_some, bif_dec]
  rw [wi64 (n := e + ln N) (by omega), wi64 (n := 0 - e) (by omega)]
  by_cases h : e + ln N > 40
  · rw [if_pos h, if_pos h]; exact ⟨rfl, by decide, by decide⟩
  · rw [if_neg h, if_neg h]
    have qb := toq_bd hN.1 h
    rw [show (0 : Int) - e = -e by omega, units_eq hN (by omega) (by omega) false]
    simp only [Option.bind_some]
    rw [up_eq mode n ⟨qb.1, by omega⟩ (halfS N (-e)) (restS N (-e) false) (leftS (halfS N (-e)) (restS N (-e) false)) rfl]
    simp only [Option.bind_some]
    rw [wu64 (n := qS N (-e) + 1) (by omega)]
    unfold fin1
    generalize upS mode n (decide (qS N (-e) % 2 = 1)) (halfS N (-e)) (restS N (-e) false) = b
    refine ⟨?_, ?_, ?_⟩
    · cases b <;> cases halfS N (-e) <;> cases restS N (-e) false <;> rfl
    · cases b <;> simp <;> omega
    · cases b <;> simp <;> omega
theorem toint_eq (f mode : Int) {a : Int} (ha : w32 a) : F_94d f mode a = some (tointS f mode a) := by
  have xa := xp_bd f a
  have hw := wunits_eq mode (sg f a) (sig_w64 f a) (show -1000 ≤ xp f a ∧ xp f a ≤ 1000 by omega)
  have hf := ex_fin f a
  have ft : F_961 f a = some (!(nan f a || inff f a)) := by
    unfold F_961
    rw [parts_eq f ha.1 ha.2, top_eq]
    simp only [Option.bind_some]
    congr 1
    rw [Bool.eq_iff_iff]
    simp only [decide_eq_true_eq, Bool.not_eq_true', Bool.or_eq_false_iff]
    rw [hf]
    unfold nan inff
    simp only [decide_eq_false_iff_not]
    omega
  unfold F_94d tointS
  rw [ft, of_eq f ha]
  simp only [Option.bind_some]
  rw [hw.1]
  simp only [Option.bind_some]
  obtain ⟨h1, h2⟩ := hw.2
  generalize (unitsW mode (sg f a) (xp f a) (sig f a)).1 = q at *
  generalize (unitsW mode (sg f a) (xp f a) (sig f a)).2 = b at *
  rw [wi64 (n := q) (by omega), wi64 (n := 0 - q) (by omega)]
  have hx : (bif sg f a then 0 - q else q) = (if sg f a then -q else q) := by cases sg f a <;> simp
  rw [hx]
  have hb : -1099511627777 ≤ (if sg f a then -q else q) ∧ (if sg f a then -q else q) ≤ 1099511627777 := by split <;> omega
  generalize (if sg f a then -q else q) = r at *
  have hw32 : IntKind.i64.wrap (IntKind.i32.wrap r) = IntKind.i32.wrap r := by
    apply wi64
    simp only [IntKind.wrap, IntKind.bits, IntKind.signed]; simp
    split <;> omega
  rw [hw32, bif_eq]
  cases nan f a <;> cases inff f a <;> simp only [Bool.or_true, Bool.or_false, Bool.not_true, Bool.not_false, cond_true, cond_false, if_true, if_false, Bool.false_eq_true] <;> (try rfl)
  by_cases k : r = IntKind.i32.wrap r
  · rw [if_pos k, if_pos k]
  · rw [if_neg k, if_neg k]
set_option maxHeartbeats 8000000
def divS (f mode a b : Int) : Int × ExcT × Unit :=
  if nan f a || nan f b then (NN f, (loud f a || loud f b, false, false, false, false, ()), ())
  else if (zr f a && zr f b) || (inff f a && inff f b) then (NN f, (true, false, false, false, false, ()), ())
  else if inff f a then (sgn f (!(sg f a == sg f b)) + IN f, EXC0, ())
  else if inff f b || zr f a then (sgn f (!(sg f a == sg f b)), EXC0, ())
  else if zr f b then (sgn f (!(sg f a == sg f b)) + IN f, (false, true, false, false, false, ()), ())
  else pk f mode (!(sg f a == sg f b)) (xp f a - (61 - lg (sig f a)) - xp f b) (sig f a * 2 ^ (61 - lg (sig f a)) / sig f b) (decide (sig f a * 2 ^ (61 - lg (sig f a)) % sig f b ≠ 0))
theorem div_eq (f mode : Int) {a b : Int} (ha : w32 a) (hb : w32 b) : F_923 f mode a b = some (divS f mode a b) := by
  have xa := xp_bd f a
  have xb := xp_bd f b
  have sa := sig_bd f a
  have sb := sig_bd f b
  have fb := fmt_bd f
  have c61 : (2 : Int) ^ 62 = 4611686018427387904 := rfl
  have ka := kl_le f a
  have kb := kl_le f b
  have na : nan f a = decide (kl f a ≥ 4) := by unfold nan; exact decide_eq_decide.2 (kl_nan f a).symm
  have nb : nan f b = decide (kl f b ≥ 4) := by unfold nan; exact decide_eq_decide.2 (kl_nan f b).symm
  have za : zr f a = decide (kl f a = 0) := by unfold zr; exact decide_eq_decide.2 (kl_zero f a).symm
  have zb : zr f b = decide (kl f b = 0) := by unfold zr; exact decide_eq_decide.2 (kl_zero f b).symm
  have ia : inff f a = decide (kl f a = 3) := by unfold inff; exact decide_eq_decide.2 (kl_inf f a).symm
  have ib : inff f b = decide (kl f b = 3) := by unfold inff; exact decide_eq_decide.2 (kl_inf f b).symm
  have road : sig f a ≠ 0 → sig f b ≠ 0 →
      ((F_944 f a).bind fun r26 =>
        (F_944 f b).bind fun r28 =>
        (F_931 r26.2.2.1).bind fun r31 =>
        (F_949 r26.2.2.1 (IntKind.wrap .i64 ((0:Int) - (IntKind.wrap .i64 ((62:Int) - r31))))).bind fun r33 =>
        bif (r28.2.2.1 == (0:Int)) then none else
        bif (r28.2.2.1 == (0:Int)) then none else
        (F_93c f mode (!(sg f a == sg f b)) (IntKind.wrap .i64 ((IntKind.wrap .i64 (r26.2.1 - (IntKind.wrap .i64 ((62:Int) - r31)))) - r28.2.1)) (IntKind.wrap .u64 (Int.tdiv r33.1 r28.2.2.1)) ((Int.tmod r33.1 r28.2.2.1) != (0:Int))).bind fun r34 =>
        (some r34)) = some (pk f mode (!(sg f a == sg f b)) (xp f a - (61 - lg (sig f a)) - xp f b) (sig f a * 2 ^ (61 - lg (sig f a)) / sig f b) (decide (sig f a * 2 ^ (61 - lg (sig f a)) % sig f b ≠ 0))) := by
    intro h1 h2
    have hp : 0 < sig f a := by omega
    have hq : 0 < sig f b := by omega
    have hl := lg_bd (k := 62) hp (by omega)
    have hlt := lg_lt hp
    have hle := lg_le hp
    have hb2 : sig f a * 2 ^ (61 - lg (sig f a)) < 2 ^ 62 := by
      have := Int.mul_lt_mul_of_pos_right hlt (p2_pos (61 - lg (sig f a)))
      rw [← p2_add, show lg (sig f a) + 1 + (61 - lg (sig f a)) = 62 by omega] at this
      exact this
    have hb0 : 0 ≤ sig f a * 2 ^ (61 - lg (sig f a)) := Int.mul_nonneg sa.1 (by have := p2_pos (61 - lg (sig f a)); omega)
    rw [of_eq f ha, of_eq f hb]
    simp only [Option.bind_some]
    rw [len_eq (sig_w64 f a), ln_pos hp]
    simp only [Option.bind_some]
    rw [wi64 (n := 62 - ((lg (sig f a) : Int) + 1)) (by omega), wi64 (n := 0 - (62 - ((lg (sig f a) : Int) + 1))) (by omega)]
    have hs : F_949 (sig f a) (0 - (62 - ((lg (sig f a) : Int) + 1))) = some (sig f a * 2 ^ (61 - lg (sig f a)), false, ()) := by
      by_cases h0 : lg (sig f a) = 61
      · rw [h0, show 0 - (62 - (((61 : Nat) : Int) + 1)) = 0 by omega, shr_eq (sig_w64 f a) (by omega)]; simp
      · have := shl_eq (sig_w64 f a) (n := 61 - (lg (sig f a) : Int)) (by omega) (by
          rw [show (61 - (lg (sig f a) : Int)).toNat = 61 - lg (sig f a) by omega]; omega)
        rw [show 0 - (62 - ((lg (sig f a) : Int) + 1)) = -(61 - (lg (sig f a) : Int)) by omega, this]
        rw [show (61 - (lg (sig f a) : Int)).toNat = 61 - lg (sig f a) by omega]
    rw [hs]
    simp only [Option.bind_some]
    have hz : (sig f b == 0) = false := beq_false_of_ne h2
    rw [hz]
    simp only [cond_false]
    rw [tdiv_nn hb0, tmod_nn hb0]
    have hd0 : 0 ≤ sig f a * 2 ^ (61 - lg (sig f a)) / sig f b := Int.ediv_nonneg hb0 (by omega)
    have hd1 : sig f a * 2 ^ (61 - lg (sig f a)) / sig f b ≤ sig f a * 2 ^ (61 - lg (sig f a)) := Int.ediv_le_self _ hb0
    rw [wu64 (n := sig f a * 2 ^ (61 - lg (sig f a)) / sig f b) (by omega), wi64 (n := xp f a - (62 - ((lg (sig f a) : Int) + 1))) (by omega), wi64 (by omega)]
    rw [pack_eq f mode _ _ (show w64 (sig f a * 2 ^ (61 - lg (sig f a)) / sig f b) from ⟨hd0, by omega⟩)]
    simp only [Option.bind_some]
    rw [show min (max (xp f a - (62 - ((lg (sig f a) : Int) + 1)) - xp f b) (-10000)) 10000 = xp f a - (61 - lg (sig f a)) - xp f b by omega]
    have : (sig f a * 2 ^ (61 - lg (sig f a)) % sig f b != 0) = decide (sig f a * 2 ^ (61 - lg (sig f a)) % sig f b ≠ 0) := by rw [Bool.eq_iff_iff]; simp
    rw [this]
  unfold F_923 F_941 divS
  rw [snans_eq f [a, b] (by simp) (by simpa using ⟨ha, hb⟩), neg_eq f ha, neg_eq f hb, class_eq f ha.1 ha.2, class_eq f hb.1 hb.2, nan_w]
  simp only [Option.bind_some, List.any_cons, List.any_nil, Bool.or_false, inf_eq, zero_eq]
  have hsa : nan f a = false → inff f a = false → zr f a = false → sig f a ≠ 0 := fun h1 h2 h3 k => by rw [(sig_zero f a h1 h2).1 k] at h3; cases h3
  have hsb : nan f b = false → inff f b = false → zr f b = false → sig f b ≠ 0 := fun h1 h2 h3 k => by rw [(sig_zero f b h1 h2).1 k] at h3; cases h3
  rw [na, nb] at *
  rw [za, zb, ia, ib] at *
  generalize pk f mode _ _ _ _ = W at *
  generalize loud f a = la at *
  generalize loud f b = lb at *
  rcases (show kl f a = 0 ∨ kl f a = 1 ∨ kl f a = 2 ∨ kl f a = 3 ∨ kl f a ≥ 4 by omega) with p | p | p | p | p <;>
  rcases (show kl f b = 0 ∨ kl f b = 1 ∨ kl f b = 2 ∨ kl f b = 3 ∨ kl f b ≥ 4 by omega) with q | q | q | q | q
  all_goals (first | (have p' : decide (kl f a ≥ 4) = true := decide_eq_true p) | (have p' : decide (kl f a ≥ 4) = false := decide_eq_false (by omega)))
  all_goals (first | (have q' : decide (kl f b ≥ 4) = true := decide_eq_true q) | (have q' : decide (kl f b ≥ 4) = false := decide_eq_false (by omega)))
  all_goals rw [p', q']
  all_goals (try (have r1 := road (hsa (by rw [p']) (by rw [p]; rfl) (by rw [p]; rfl)) (hsb (by rw [q']) (by rw [q]; rfl) (by rw [q]; rfl))))
  all_goals clear road hsa hsb na nb za zb ia ib ka kb xa xb
  all_goals (first
    | (rw [Bool.true_or]; rfl)
    | (rw [Bool.or_true]; rfl)
    | (rw [p, q]; rfl)
    | (rw [p, q]; exact r1)
    | skip)
theorem fabove_eq {a b : Int} (ha : w32 a) (hb : w32 b) : F_933 a b = some (lt 2 b a) := by
  unfold F_933; rw [less_eq 2 hb ha]; rfl
theorem fisnan_eq {a : Int} (ha : w32 a) : F_92a a = some (nan 2 a) := by
  unfold F_92a; rw [isnan_eq 2 ha]; rfl
def mulf (a b : Int) : Int := (mulS 2 0 a b).1
def subf (a b : Int) : Int := (subS 2 0 a b).1
def divf (a b : Int) : Int := (divS 2 0 a b).1
def intf (n : Int) : Int := (fintS 2 0 n).1
def scalef (a n : Int) : Int := (scaleS 2 0 a n).1
def wholef (a : Int) : Int := (tointS 2 0 a).1
theorem mulf_w (a b : Int) : w32 (mulf a b) := wf_w (mul_wf 2 0 a b)
theorem subf_w (a b : Int) : w32 (subf a b) := wf_w (sub_wf 2 0 a b)
theorem div_wf (f mode a b : Int) : wf f (divS f mode a b).1 := by
  unfold divS
  split
  · exact NN_wf f
  split
  · exact NN_wf f
  split
  · exact infs_wf f _
  split
  · have := sgn_wf f (!(sg f a == sg f b)) (x := 0) ⟨Int.le_refl _, by have := TT_cs f; omega⟩
    rw [Int.add_zero] at this
    exact this
  split
  · exact infs_wf f _
  · exact pk_wf _ _ _ _ _ _ (Int.ediv_nonneg (Int.mul_nonneg (sig_bd f a).1 (by have := p2_pos (61 - lg (sig f a)); omega)) (sig_bd f b).1)
theorem divf_w (a b : Int) : w32 (divf a b) := wf_w (div_wf 2 0 a b)
theorem fint_wf (f mode v : Int) : wf f (fintS f mode v).1 := pk_wf _ _ _ _ _ _ (by split <;> omega)
theorem intf_w (n : Int) : w32 (intf n) := wf_w (fint_wf 2 0 n)
theorem scale_wf (f mode a n : Int) : wf f (scaleS f mode a n).1 := by
  unfold scaleS
  split
  · exact NN_wf f
  split
  · have := mod_bd f a; exact ⟨this.1, this.2.1⟩
  · exact pk_wf _ _ _ _ _ _ (sig_bd f a).1
theorem scalef_w (a n : Int) : w32 (scalef a n) := wf_w (scale_wf 2 0 a n)
theorem turn2_w {a : Int} (h : w32 a) : w32 (turnS 2 a) := wf_w (turn_wf' 2 h)
theorem wholef_bd (a : Int) : -2147483648 ≤ wholef a ∧ wholef a ≤ 2147483647 := by
  have wr : ∀ z : Int, -2147483648 ≤ IntKind.wrap .i32 z ∧ IntKind.wrap .i32 z ≤ 2147483647 := fun z => by
    simp only [IntKind.wrap, IntKind.bits, IntKind.signed]; simp
    split <;> omega
  unfold wholef tointS
  generalize (if sg 2 a = true then -(unitsW 0 (sg 2 a) (xp 2 a) (sig 2 a)).1 else (unitsW 0 (sg 2 a) (xp 2 a) (sig 2 a)).1) = z
  by_cases h1 : (nan 2 a || inff 2 a) = true
  · rw [if_pos h1]; exact ⟨by decide, by decide⟩
  rw [if_neg h1]
  by_cases h2 : z = IntKind.wrap .i32 z
  · rw [if_pos h2]; exact wr z
  · rw [if_neg h2]; exact ⟨by decide, by decide⟩
theorem fmul_eq {a b : Int} (ha : w32 a) (hb : w32 b) : F_934 a b = some (mulf a b) := by
  unfold F_934; rw [mul_eq 2 0 ha hb]; rfl
theorem fsub_eq {a b : Int} (ha : w32 a) (hb : w32 b) : F_9d a b = some (subf a b) := by
  unfold F_9d; rw [sub_eq 2 0 ha hb]; rfl
theorem fdiv_eq {a b : Int} (ha : w32 a) (hb : w32 b) : F_9f a b = some (divf a b) := by
  unfold F_9f; rw [div_eq 2 0 ha hb]; rfl
theorem fsint_eq {n : Int} (h : -9223372036854775808 ≤ n ∧ n ≤ 9223372036854775807) : F_9c n = some (intf n) := by
  unfold F_9c; rw [fint_eq 2 0 h]; rfl
theorem fscale_eq {a : Int} (n : Int) (ha : w32 a) : F_932 a n = some (scalef a n) := by
  unfold F_932; rw [scale_eq 2 0 n ha]; rfl
theorem fwhole_eq {a : Int} (ha : w32 a) : F_94d 2 0 a = some (tointS 2 0 a) := toint_eq 2 0 ha
theorem xminus {a : Int} (h : w32 a) : bits .xor .u32 (bits .and .u32 a 4294967295) 2147483648 = turnS 2 a := by
  have e : F_93f 2 a = some (bits .xor .u32 (bits .and .u32 a 4294967295) 2147483648) := by
    unfold F_93f F_954 F_93a
    rfl
  rw [turn_eq2 2 h] at e
  exact (Option.some.inj e).symm
theorem sg2 {a : Int} (h : w32 a) : (bits .and .u32 (a / 2147483648) 1 == (1 : Int)) = sg 2 a := by
  have e := and_mask32 (a / 2147483648) 1 (by have := h.1; omega) (by have := h.2; omega) (by decide)
  rw [show (2 : Int) ^ 1 - 1 = 1 from rfl] at e
  rw [e, Bool.eq_iff_iff, sg_iff 2 a h.1]
  have : TT 2 = 2147483648 := rfl
  have h1 := h.1
  have h2 := h.2
  rw [this]
  simp
  omega
def polyS (x p : Int) (l : List Int) : Int := l.foldl (fun p c => fma p x c) p
theorem polyS_w {x p : Int} (hp : w32 p) : ∀ l : List Int, w32 (polyS x p l)
  | [] => hp
  | c :: l => polyS_w (fma_w p x c) l
theorem take_foldl {x p : Int} (l : List Int) {i : Nat} (h : i < l.length) : polyS x p (l.take (i + 1)) = fma (polyS x p (l.take i)) x (l.getD i 0) := by
  have e : l.take (i + 1) = l.take i ++ [l.getD i 0] := by
    rw [List.take_add_one, List.getElem?_eq_getElem h, List.getD_eq_getElem?_getD, List.getElem?_eq_getElem h]; rfl
  rw [e]; unfold polyS; rw [List.foldl_append]; rfl
theorem poly_eq {x p : Int} (hx : w32 x) (hp : w32 p) (l : List Int) (hl : ∀ c ∈ l, w32 c) (hn : l.length ≤ 100) : F_935 x p l = some (polyS x p l) := by
  have key := lim_seq (st := st_935_0) (fun i => ((x, (polyS x p (l.take i), (l, ((l.length : Int), ((i : Int), ()))))), ())) (b := ((polyS x p (l.take l.length), ()), ())) l.length
    (fun i hi R kn ko => by
      unfold st_935_0
      dsimp only
      simp only [List.take_length, bif_dec, Int.toNat_natCast]
      rw [if_pos (by omega), if_pos (by omega), ffma_eq (polyS_w hp _) hx (by
        rw [List.getD_eq_getElem?_getD, List.getElem?_eq_getElem hi]; exact hl _ (List.getElem_mem hi)), take_foldl l hi]
      simp only [Option.bind_some]
      rw [wi64 (n := (i : Int) + 1) (by omega), show ((i + 1 : Nat) : Int) = (i : Int) + 1 by omega])
    (fun R kn ko => by
      unfold st_935_0
      dsimp only
      simp only [List.take_length, bif_dec]
      rw [if_neg (by omega)])
  unfold F_935
  rw [List.take_length]
  rw [show polyS x p (l.take 0) = p from rfl] at key
  rw [List.take_length] at key
  exact (congrArg (fun o => Option.bind o fun r0 => some r0.1.1) key)
def expR (x : Int) : Int := fma (turnS 2 (intf (wholef (mulf x 1069066811)))) 901758606 (fma (turnS 2 (intf (wholef (mulf x 1069066811)))) 1060205056 x)
def expM (x : Int) : Int := scalef (polyS (expR x) 985008993 [1007192201, 1026206379, 1042983595, 1056964608, 1065353216, 1065353216]) (wholef (mulf x 1069066811))
def expS (x : Int) : Int := if nan 2 x then 2143289344 else if lt 2 1118925336 x then 2139095040 else if lt 2 x 3268407733 then 0 else expM x
theorem wlit {a : Int} (h : (decide (0 ≤ a) && decide (a ≤ 4294967295)) = true) : w32 a := by
  simp at h; exact ⟨h.1, by omega⟩
theorem exp_eq {x : Int} (h : w32 x) : F_929 x = some (expS x) := by
  have bw := wholef_bd (mulf x 1069066811)
  unfold F_929 expS
  rw [fisnan_eq h, fabove_eq h (wlit rfl), fabove_eq (wlit rfl) h, fmul_eq h (wlit rfl)]
  simp only [Option.bind_some]
  rw [fwhole_eq (mulf_w _ _)]
  simp only [Option.bind_some]
  rw [show (tointS 2 0 (mulf x 1069066811)).1 = wholef (mulf x 1069066811) from rfl, wi64 (by omega), fsint_eq (by omega)]
  simp only [Option.bind_some]
  rw [xminus (intf_w _), ffma_eq (turn2_w (intf_w _)) (wlit rfl) h]
  simp only [Option.bind_some]
  rw [ffma_eq (turn2_w (intf_w _)) (wlit rfl) (fma_w _ _ _)]
  simp only [Option.bind_some]
  rw [poly_eq (fma_w _ _ _) (wlit rfl) _ (by decide) (by decide)]
  simp only [Option.bind_some]
  rw [fscale_eq _ (polyS_w (wlit rfl) _)]
  cases nan 2 x <;> cases lt 2 1118925336 x <;> cases lt 2 x 3268407733 <;> rfl
theorem exp_w {x : Int} : w32 (expS x) := by
  unfold expS
  split
  · exact wlit rfl
  split
  · exact wlit rfl
  split
  · exact wlit rfl
  · exact scalef_w _ _
def logT (m : Int) : Int := divf (subf m 1065353216) (addf 1073741824 (subf m 1065353216))
def logY (s : Int) : Int := fma s (mulf (polyS (mulf s s) 1046711865 [1049774373, 1053609165, 1059760811]) (mulf s s)) (addf s s)
def logK (e m : Int) : Int := fma (intf e) 1060205056 (fma (intf e) 901758606 (logY (logT m)))
def logE (x : Int) : Int := xp 2 x + ln (sig 2 x) - 1
def logM (x : Int) : Int := if lt 2 1068827891 (scalef x (-logE x)) then logK (logE x + 1) (scalef (scalef x (-logE x)) (-1)) else logK (logE x) (scalef x (-logE x))
def logS (x : Int) : Int := if nan 2 x then 2143289344 else if zr 2 x then 4286578688 else if sg 2 x then 2143289344 else if inff 2 x then x else logM x
theorem log_eq {x : Int} (h : w32 x) : F_918 x = some (logS x) := by
  have xa := xp_bd 2 x
  have hl := ln_bd (k := 64) (sig_bd 2 x).1 (by have := sig_bd 2 x; have : (2 : Int) ^ 64 = 18446744073709551616 := rfl; have := (sig_w64 2 x).2; omega)
  have hr : ∀ e m : Int, w32 m → -10000 ≤ e ∧ e ≤ 10000 →
      ((F_9d m (1065353216:Int)).bind fun r22 =>
            (F_910 (1073741824:Int) r22).bind fun r23 =>
            (F_9f r22 r23).bind fun r24 =>
            (F_934 r24 r24).bind fun r25 =>
            (F_935 r25 (1046711865:Int) [(1049774373:Int), (1053609165:Int), (1059760811:Int)]).bind fun r26 =>
            (F_934 r26 r25).bind fun r27 =>
            (F_910 r24 r24).bind fun r28 =>
            (F_9e r24 r27 r28).bind fun r29 =>
            (F_9c e).bind fun r30 =>
            (F_9e r30 (901758606:Int) r29).bind fun r31 =>
            (F_9e r30 (1060205056:Int) r31).bind fun r32 =>
            (some r32)) = some (logK e m) := by
    intro e m hm he
    rw [fsub_eq hm (wlit rfl)]
    simp only [Option.bind_some]
    rw [fadd_eq (wlit rfl) (subf_w _ _)]
    simp only [Option.bind_some]
    rw [fdiv_eq (subf_w _ _) (addf_w _ _)]
    simp only [Option.bind_some]
    rw [fmul_eq (divf_w _ _) (divf_w _ _)]
    simp only [Option.bind_some]
    rw [poly_eq (mulf_w _ _) (wlit rfl) _ (by decide) (by decide)]
    simp only [Option.bind_some]
    rw [fmul_eq (polyS_w (wlit rfl) _) (mulf_w _ _), fadd_eq (divf_w _ _) (divf_w _ _)]
    simp only [Option.bind_some]
    rw [ffma_eq (divf_w _ _) (mulf_w _ _) (addf_w _ _), fsint_eq (by omega)]
    simp only [Option.bind_some]
    rw [ffma_eq (intf_w _) (wlit rfl) (fma_w _ _ _)]
    simp only [Option.bind_some]
    rw [ffma_eq (intf_w _) (wlit rfl) (fma_w _ _ _)]
    rfl
  unfold F_918 logS
  rw [fisnan_eq h, iszero_eq 2 h, isinf_eq 2 h, unpack_eq 2 h, sg2 h]
  simp only [Option.bind_some]
  rw [len_eq (sig_w64 2 x)]
  simp only [Option.bind_some]
  rw [wi64 (n := xp 2 x + ln (sig 2 x)) (by omega), wi64 (n := xp 2 x + ln (sig 2 x) - 1) (by omega), wi64 (n := 0 - (xp 2 x + ln (sig 2 x) - 1)) (by omega), wi64 (n := xp 2 x + ln (sig 2 x) - 1 + 1) (by omega), fscale_eq _ h]
  simp only [Option.bind_some]
  rw [fabove_eq (scalef_w _ _) (wlit rfl), fscale_eq _ (scalef_w _ _)]
  simp only [Option.bind_some]
  have h1 := hr (xp 2 x + ln (sig 2 x) - 1 + 1) (scalef (scalef x (0 - (xp 2 x + ln (sig 2 x) - 1))) (-1)) (scalef_w _ _) (by omega)
  have h2 := hr (xp 2 x + ln (sig 2 x) - 1) (scalef x (0 - (xp 2 x + ln (sig 2 x) - 1))) (scalef_w _ _) (by omega)
  rw [h1, h2]
  unfold logM logE
  rw [show (0 : Int) - (xp 2 x + ln (sig 2 x) - 1) = -(xp 2 x + ln (sig 2 x) - 1) by omega]
  cases nan 2 x <;> cases zr 2 x <;> cases sg 2 x <;> cases inff 2 x <;> cases lt 2 1068827891 (scalef x (-(xp 2 x + ln (sig 2 x) - 1))) <;> rfl
theorem log_w {x : Int} (h : w32 x) : w32 (logS x) := by
  unfold logS
  split
  · exact wlit rfl
  split
  · exact wlit rfl
  split
  · exact wlit rfl
  split
  · exact h
  · unfold logM; split <;> exact fma_w _ _ _
noncomputable def O_94b : Orc := (orm c_94f (orm c_950 c_93a))
theorem okO_94b : OrcOk PR O_94b := (orm_ok ok_94f (orm_ok ok_950 ok_93a))
abbrev fa_94b : Fm := (.pair (.i .i64) (.pair (.i .u32) (.pair (.i .u32) (.pair .b .unit))))
abbrev fr_94b : Fm := (.i .u32)
noncomputable def F_94b (a0 : Int) (a1 : Int) (a2 : Int) (a3 : Bool) : Option (Int) :=
 ((F_94f a0 a1)).bind fun r0 =>
 bif r0 then
 ((F_94f a0 a2)).bind fun r1 =>
 bif r1 then
 ((F_950 a0)).bind fun r2 =>
 (some r2)
 else
 ((F_94f a0 a1)).bind fun r3 =>
 bif r3 then
 ((F_93a a0)).bind fun r4 =>
 (some (bits .and .u32 a2 r4))
 else
 ((F_94f a0 a2)).bind fun r5 =>
 bif (bif r5 then true else a3) then
 ((F_93a a0)).bind fun r6 =>
 (some (bits .and .u32 a1 r6))
 else
 ((F_93a a0)).bind fun r7 =>
 (some (bits .and .u32 a2 r7))
 else
 ((F_94f a0 a1)).bind fun r8 =>
 bif r8 then
 ((F_93a a0)).bind fun r9 =>
 (some (bits .and .u32 a2 r9))
 else
 ((F_94f a0 a2)).bind fun r10 =>
 bif (bif r10 then true else a3) then
 ((F_93a a0)).bind fun r11 =>
 (some (bits .and .u32 a1 r11))
 else
 ((F_93a a0)).bind fun r12 =>
 (some (bits .and .u32 a2 r12))
noncomputable def G_94b : T fa_94b → TH hN0 → Option (Int) := fun x y => F_94b x.1 x.2.1 x.2.2.1 x.2.2.2.1
noncomputable def c_94b : Orc := ent i_94b [] 0 (sp fa_94b hN0 fr_94b hN0 G_94b (outN fr_94b))
theorem ok_94b : OrcOk PR c_94b := fnT okO_94b mixed p_94b (by kernel_rfl) (by kernel_rfl) (L := L0) (kp := false) (by kernel_rfl) (inn := (innN fr_94b)) (out := (outN fr_94b)) (fun _ _ => rfl) (loopsL (l := []) (by kernel_rfl) trivial) (fun x y => by kernel_rfl)
noncomputable def O_928 : Orc := (orm c_94c c_94b)
theorem okO_928 : OrcOk PR O_928 := (orm_ok ok_94c ok_94b)
abbrev fa_928 : Fm := (.pair (.i .i64) (.pair (.i .u32) (.pair (.i .u32) .unit)))
abbrev fr_928 : Fm := (.i .u32)
noncomputable def F_928 (a0 : Int) (a1 : Int) (a2 : Int) : Option (Int) :=
 ((F_94c a0 a1)).bind fun r0 =>
 ((F_94c a0 a2)).bind fun r1 =>
 ((F_94b a0 a1 a2 (decide (r0 > r1)))).bind fun r2 =>
 (some r2)
noncomputable def G_928 : T fa_928 → TH hN0 → Option (Int) := fun x y => F_928 x.1 x.2.1 x.2.2.1
noncomputable def c_928 : Orc := ent i_928 [] 0 (sp fa_928 hN0 fr_928 hN0 G_928 (outN fr_928))
theorem ok_928 : OrcOk PR c_928 := fnT okO_928 mixed p_928 (by kernel_rfl) (by kernel_rfl) (L := L0) (kp := false) (by kernel_rfl) (inn := (innN fr_928)) (out := (outN fr_928)) (fun _ _ => rfl) (loopsL (l := []) (by kernel_rfl) trivial) (fun x y => by kernel_rfl)
noncomputable def O_915 : Orc := c_9b
theorem okO_915 : OrcOk PR O_915 := ok_9b
abbrev fa_915 : Fm := (.pair (.agg (.pair (.i .i64) (.pair (.i .i64) (.pair (.i .i64) (.pair (.si .u32) .unit))))) (.pair (.si .i64) .unit))
abbrev fr_915 : Fm := (.tup (.pair (.agg (.pair (.i .i64) (.pair (.i .i64) (.pair (.i .i64) (.pair (.si .u32) .unit))))) (.pair (.i .i64) .unit)))
abbrev ff_915_0 : Fm := (.us 4 (.cst (.ref 0 1 0) (.us 1 (.cst (.ref 1 1 0) (.us 28 (.pair (.si .i64) (.pair (.i .i64) (.pair (.i .i64) (.us 14 .unit)))))))))
abbrev hf_915_0 : List BF := [(.list 1 y_90 true (.pair (.i .i64) (.pair (.i .i64) (.pair (.i .i64) (.cst .nils .unit))))), (.list 1 y_90 true (.pair (.i .i64) (.pair (.i .i64) (.pair (.i .i64) (.pair (.si .u32) .unit)))))]
abbrev X_915_0 : Xs := (.alt (.exit 0) [4, 6] (.us 4 (.cst (.ref 0 1 0) (.us 1 (.cst (.ref 1 1 0) (.us 45 .unit))))) [(.list 1 y_90 true (.pair (.i .i64) (.pair (.i .i64) (.pair (.i .i64) (.cst .nils .unit))))), (.list 1 y_90 true (.pair (.i .i64) (.pair (.i .i64) (.pair (.i .i64) (.pair (.si .u32) .unit)))))] (.one .ret [4, 5] (.us 4 (.cst (.ref 0 1 0) (.pair (.i .i64) (.us 46 .unit)))) [(.list 1 y_90 true (.pair (.i .i64) (.pair (.i .i64) (.pair (.i .i64) (.cst .nils .unit)))))]))
abbrev S_915_0 : Type := T ff_915_0 × TH hf_915_0
abbrev E_915_0 : Type := TX X_915_0
noncomputable def LB_915_0 : Lps := L0
noncomputable def st_915_0 : StepT S_915_0 E_915_0 := fun R v kn ko =>
 let x0 : List Int := v.1.1
 let x1 : List Int := v.2.2.1.2.2.2.1
 bif (decide (v.1.2.2.1 < v.1.2.1)) then
 bif (decide (((0:Int) ≤ v.1.2.2.1) ∧ (v.1.2.2.1 < (((List.length x0) : Nat) : Int)))) then
 bif (decide ((List.getD x0 (Int.toNat v.1.2.2.1) (0:Int)) < (0:Int))) then
 (ko (Sum.inr (((22:Int), ()), (((0:Int), ((0:Int), ((0:Int), ()))), ()))))
 else
 bif (decide ((List.getD x0 (Int.toNat v.1.2.2.1) (0:Int)) ≥ v.2.2.1.2.1)) then
 (ko (Sum.inr (((22:Int), ()), (((0:Int), ((0:Int), ((0:Int), ()))), ()))))
 else
 (kn (((List.take (List.length x0) x0), (v.1.2.1, ((IntKind.wrap .i64 (v.1.2.2.1 + (1:Int))), ()))), (v.2.1, ((v.2.2.1.1, (v.2.2.1.2.1, (v.2.2.1.2.2.1, ((List.take (List.length x1) x1), ())))), ()))))
 else
 none
 else
 (ko (Sum.inl ((), (v.2.1, ((v.2.2.1.1, (v.2.2.1.2.1, (v.2.2.1.2.2.1, ((List.take (List.length x1) x1), ())))), ())))))
noncomputable def ls_915_0 : St → LTr := (lsum ff_915_0 hf_915_0 X_915_0 Prod.mk id st_915_0 (hd [] [] [4, 6, 35, 36, 37] 0))
theorem lp_915_0 : LoopOk PR 0 (lpN f_915 0) ls_915_0 := loopT okO_915 mixed (L := LB_915_0) (d := 1) (bs := []) (ks := [4, 6, 35, 36, 37]) (loopsL (l := []) (by kernel_rfl) trivial) (by kernel_rfl) (inS := Prod.mk) (outS := id) (fun _ _ => rfl) (inX := id) (outX := id) (fun _ => rfl) (fun v R kn ko => by kernel_rfl) (hd_wk [] [] [4, 6, 35, 36, 37] 0)
noncomputable def L_915 : Lps := (lpB 6 (.by_ ls_915_0) L0)
noncomputable def F_915 (a0 : Int × Int × Int × List Int × Unit) (a1 : List Int) : Option ((Int × Int × Int × List Int × Unit) × Int × Unit) :=
 let x0 : Int := a0.2.2.1
 let x1 : List Int := a0.2.2.2.1
 ((F_9b (a0.1, (a0.2.1, (x0, ((List.take (List.length x1) x1), ())))))).bind fun r2 =>
 let x3 : Int := r2.1.2.1
 let x4 : Int := r2.1.2.2.1
 let x5 : List Int := r2.1.2.2.2.1
 bif (r2.2.1 != (0:Int)) then
 (some (((0:Int), ((0:Int), ((0:Int), ([], ())))), ((21:Int), ())))
 else
 bif (r2.1.1 != (((List.length a1) : Nat) : Int)) then
 (some (((0:Int), ((0:Int), ((0:Int), ([], ())))), ((21:Int), ())))
 else
 bif (decide (r2.1.1 > (0:Int))) then
 bif (x3 == (0:Int)) then
 (some (((0:Int), ((0:Int), ((0:Int), ([], ())))), ((21:Int), ())))
 else
 ((lim st_915_0 (((List.take (List.length a1) a1), ((((List.length a1) : Nat) : Int), ((0:Int), ()))), (((0:Int), ((0:Int), ((0:Int), ()))), ((r2.1.1, (x3, (x4, ((List.take (List.length x5) x5), ())))), ()))))).bind fun r6 =>
 els (fun l7 =>
 let x9 : Int := l7.2.2.1.1
 let x10 : Int := l7.2.2.1.2.1
 let x11 : Int := l7.2.2.1.2.2.1
 let x12 : List Int := l7.2.2.1.2.2.2.1
 (some ((x9, (x10, (x11, ((List.take (List.length x12) x12), ())))), ((0:Int), ())))) (fun r8 =>
 let x13 : Int := r8.2.1.1
 let x14 : Int := r8.2.1.2.1
 let x15 : Int := r8.2.1.2.2.1
 (some ((x13, (x14, (x15, ([], ())))), r8.1))) r6
 else
 ((lim st_915_0 (((List.take (List.length a1) a1), ((((List.length a1) : Nat) : Int), ((0:Int), ()))), (((0:Int), ((0:Int), ((0:Int), ()))), ((r2.1.1, (x3, (x4, ((List.take (List.length x5) x5), ())))), ()))))).bind fun r16 =>
 els (fun l17 =>
 let x19 : Int := l17.2.2.1.1
 let x20 : Int := l17.2.2.1.2.1
 let x21 : Int := l17.2.2.1.2.2.1
 let x22 : List Int := l17.2.2.1.2.2.2.1
 (some ((x19, (x20, (x21, ((List.take (List.length x22) x22), ())))), ((0:Int), ())))) (fun r18 =>
 let x23 : Int := r18.2.1.1
 let x24 : Int := r18.2.1.2.1
 let x25 : Int := r18.2.1.2.2.1
 (some ((x23, (x24, (x25, ([], ())))), r18.1))) r16
noncomputable def G_915 : T fa_915 → TH hN0 → Option ((Int × Int × Int × List Int × Unit) × Int × Unit) := fun x y => F_915 x.1 x.2.1
noncomputable def c_915 : Orc := ent i_915 [] 0 (sp fa_915 hN0 fr_915 hN0 G_915 (outN fr_915))
theorem ok_915 : OrcOk PR c_915 := fnT okO_915 mixed p_915 (by kernel_rfl) (by kernel_rfl) (L := L_915) (kp := false) (by kernel_rfl) (inn := (innN fr_915)) (out := (outN fr_915)) (fun _ _ => rfl) (loopsL (l := [((lpN f_915 0), ls_915_0)]) (by kernel_rfl) ⟨lp_915_0, trivial⟩) (fun x y => by kernel_rfl)
noncomputable def O_916 : Orc := orn
theorem okO_916 : OrcOk PR O_916 := (orn_ok _)
abbrev fa_916 : Fm := (.pair (.agg (.pair (.i .i64) (.pair (.i .i64) (.pair (.i .i64) (.pair (.si .u32) .unit))))) (.pair (.i .i64) .unit))
abbrev fr_916 : Fm := (.si .u32)
noncomputable def F_916 (a0 : Int × Int × Int × List Int × Unit) (a1 : Int) : Option (List Int) :=
 let x0 : Nat := (Int.toNat (IntKind.wrap .i64 (a1 * a0.2.1)))
 let x1 : Nat := ((Int.toNat (IntKind.wrap .i64 ((IntKind.wrap .i64 (a1 + (1:Int))) * a0.2.1))) - x0)
 let x2 : List Int := a0.2.2.2.1
 bif (decide (((0:Int) ≤ (IntKind.wrap .i64 (a1 * a0.2.1))) ∧ (((IntKind.wrap .i64 (a1 * a0.2.1)) ≤ (IntKind.wrap .i64 ((IntKind.wrap .i64 (a1 + (1:Int))) * a0.2.1))) ∧ ((IntKind.wrap .i64 ((IntKind.wrap .i64 (a1 + (1:Int))) * a0.2.1)) ≤ (((List.length x2) : Nat) : Int))))) then
 (some (List.take x1 (List.take x1 (List.drop x0 x2))))
 else
 none
noncomputable def G_916 : T fa_916 → TH hN0 → Option (List Int) := fun x y => F_916 x.1 x.2.1
noncomputable def c_916 : Orc := ent i_916 [] 0 (sp fa_916 hN0 fr_916 hN0 G_916 (outN fr_916))
theorem ok_916 : OrcOk PR c_916 := fnT okO_916 mixed p_916 (by kernel_rfl) (by kernel_rfl) (L := L0) (kp := false) (by kernel_rfl) (inn := (innN fr_916)) (out := (outN fr_916)) (fun _ _ => rfl) (loopsL (l := []) (by kernel_rfl) trivial) (fun x y => by kernel_rfl)
noncomputable def O_917 : Orc := (orm c_928 (orm c_9d (orm c_929 c_910)))
theorem okO_917 : OrcOk PR O_917 := (orm_ok ok_928 (orm_ok ok_9d (orm_ok ok_929 ok_910)))
abbrev fa_917 : Fm := (.pair (.si .u32) .unit)
abbrev fr_917 : Fm := (.tup (.pair (.si .u32) (.pair (.i .u32) (.pair (.i .u32) .unit))))
abbrev ff_917_0 : Fm := (.pair (.si .u32) (.us 4 (.pair (.i .u32) (.us 10 (.pair (.si .u32) (.pair (.i .i64) (.pair (.i .i64) (.us 28 .unit))))))))
abbrev hf_917_0 : List BF := []
abbrev X_917_0 : Xs := (.one (.exit 0) [0, 5] (.pair (.si .u32) (.us 4 (.pair (.i .u32) (.us 41 .unit)))) [])
abbrev S_917_0 : Type := T ff_917_0 × TH hf_917_0
abbrev E_917_0 : Type := TX X_917_0
noncomputable def LB_917_0 : Lps := L0
noncomputable def st_917_0 : StepT S_917_0 E_917_0 := fun R v kn ko =>
 let x0 : Int := v.1.2.1
 let x1 : List Int := v.1.2.2.1
 let x2 : Int := v.1.2.2.2.2.1
 let x3 : List Int := v.1.1
 let x4 : List Int := (List.take (List.length x3) x3)
 bif (decide (x2 < v.1.2.2.2.1)) then
 bif (decide (((0:Int) ≤ x2) ∧ (x2 < (((List.length x1) : Nat) : Int)))) then
 ((F_928 (2:Int) x0 (List.getD x1 (Int.toNat x2) (0:Int)))).bind fun r5 =>
 (kn ((x4, (r5, ((List.take (List.length x1) x1), (v.1.2.2.2.1, ((IntKind.wrap .i64 (x2 + (1:Int))), ()))))), ()))
 else
 none
 else
 (ko ((x4, (x0, ())), ()))
noncomputable def ls_917_0 : St → LTr := (lsum ff_917_0 hf_917_0 X_917_0 Prod.mk id st_917_0 (hd [] [] [0, 5, 16, 17, 18] 0))
theorem lp_917_0 : LoopOk PR 0 (lpN f_917 0) ls_917_0 := loopT okO_917 mixed (L := LB_917_0) (d := 1) (bs := []) (ks := [0, 5, 16, 17, 18]) (loopsL (l := []) (by kernel_rfl) trivial) (by kernel_rfl) (inS := Prod.mk) (outS := id) (fun _ _ => rfl) (inX := id) (outX := id) (fun _ => rfl) (fun v R kn ko => by kernel_rfl) (hd_wk [] [] [0, 5, 16, 17, 18] 0)
abbrev ff_917_1 : Fm := (.us 5 (.pair (.i .u32) (.us 2 (.pair (.own 0 1 0 1) (.pair (.i .u32) (.us 16 (.pair (.si .u32) (.pair (.i .i64) (.pair (.i .i64) (.us 18 .unit))))))))))
abbrev hf_917_1 : List BF := [(.ints 1 y_91 true .u32)]
abbrev X_917_1 : Xs := (.one (.exit 2) [5, 8, 9] (.us 5 (.pair (.i .u32) (.us 2 (.pair (.own 0 1 0 1) (.pair (.i .u32) (.us 37 .unit)))))) [(.ints 1 y_91 true .u32)])
abbrev S_917_1 : Type := T ff_917_1 × TH hf_917_1
abbrev E_917_1 : Type := TX X_917_1
noncomputable def LB_917_1 : Lps := (lpB 4 (.by_ ls_917_0) L0)
noncomputable def st_917_1 : StepT S_917_1 E_917_1 := fun R v kn ko =>
 let x0 : List Int := v.1.2.2.2.1
 let x1 : Int := v.1.2.2.2.2.2.1
 let x2 : Int := v.1.1
 let x3 : Int := v.1.2.2.1
 let x4 : Nat := v.1.2.1
 bif (decide (x1 < v.1.2.2.2.2.1)) then
 bif (decide (((0:Int) ≤ x1) ∧ (x1 < (((List.length x0) : Nat) : Int)))) then
 ((F_9d (List.getD x0 (Int.toNat x1) (0:Int)) x2)).bind fun r5 =>
 ((F_929 r5)).bind fun r6 =>
 bif (decide ((x4 + (1:Nat)) ≤ (1073741824:Nat))) then
 ((F_910 x3 r6)).bind fun r7 =>
 (kn ((x2, ((x4 + (1:Nat)), (r7, ((List.take (List.length x0) x0), (v.1.2.2.2.2.1, ((IntKind.wrap .i64 (x1 + (1:Int))), ())))))), (((List.take x4 v.2.1) ++ [r6]), ())))
 else
 none
 else
 none
 else
 (ko ((x2, (x4, (x3, ()))), v.2))
noncomputable def ls_917_1 : St → LTr := (lsum ff_917_1 hf_917_1 X_917_1 Prod.mk id st_917_1 (hd [(.pl 8, y_91, 0, .ints .u32)] [] [5, 8, 9, 26, 27, 28] 0))
theorem lp_917_1 : LoopOk PR 0 (lpN f_917 1) ls_917_1 := loopT okO_917 mixed (L := LB_917_1) (d := 1) (bs := []) (ks := [5, 8, 9, 26, 27, 28]) (loopsL (l := []) (by kernel_rfl) trivial) (by kernel_rfl) (inS := Prod.mk) (outS := id) (fun _ _ => rfl) (inX := id) (outX := id) (fun _ => rfl) (fun v R kn ko => by kernel_rfl) (hd_wk [(.pl 8, y_91, 0, .ints .u32)] [] [5, 8, 9, 26, 27, 28] 0)
noncomputable def L_917 : Lps := (lpB 11 (.by_ ls_917_1) (lpB 4 (.by_ ls_917_0) L0))
noncomputable def F_917 (a0 : List Int) : Option (List Int × Int × Int × Unit) :=
 let x0 : List Int := (List.take (List.length a0) a0)
 bif (decide (((0:Int) ≤ (0:Int)) ∧ ((0:Int) < (((List.length a0) : Nat) : Int)))) then
 ((lim st_917_0 ((x0, ((List.getD a0 (0:Nat) (0:Int)), (x0, ((((List.length a0) : Nat) : Int), ((0:Int), ()))))), ()))).bind fun r1 =>
 let x2 : List Int := r1.1.1
 let x3 : Nat := (List.length x2)
 ((lim st_917_1 ((r1.1.2.1, ((0:Nat), ((0:Int), ((List.take x3 x2), (((x3 : Nat) : Int), ((0:Int), ())))))), ([], ())))).bind fun r4 =>
 (some ((List.take r4.1.2.1 (List.drop (0:Nat) r4.2.1)), (r4.1.2.2.1, (r4.1.1, ()))))
 else
 none
noncomputable def G_917 : T fa_917 → TH hN0 → Option (List Int × Int × Int × Unit) := fun x y => F_917 x.1
noncomputable def c_917 : Orc := ent i_917 [] 0 (sp fa_917 hN0 fr_917 hN0 G_917 (outN fr_917))
theorem ok_917 : OrcOk PR c_917 := fnT okO_917 mixed p_917 (by kernel_rfl) (by kernel_rfl) (L := L_917) (kp := false) (by kernel_rfl) (inn := (innN fr_917)) (out := (outN fr_917)) (fun _ _ => rfl) (loopsL (l := [((lpN f_917 0), ls_917_0), ((lpN f_917 1), ls_917_1)]) (by kernel_rfl) ⟨lp_917_0, ⟨lp_917_1, trivial⟩⟩) (fun x y => by kernel_rfl)
noncomputable def O_911 : Orc := c_9f
theorem okO_911 : OrcOk PR O_911 := ok_9f
abbrev fa_911 : Fm := (.pair (.i .u32) (.pair (.i .u32) (.pair (.i .i64) .unit)))
abbrev fr_911 : Fm := (.i .u32)
noncomputable def F_911 (a0 : Int) (a1 : Int) (a2 : Int) : Option (Int) :=
 bif (a2 == (0:Int)) then
 (some (0:Int))
 else
 ((F_9f a0 a1)).bind fun r0 =>
 (some r0)
noncomputable def G_911 : T fa_911 → TH hN0 → Option (Int) := fun x y => F_911 x.1 x.2.1 x.2.2.1
noncomputable def c_911 : Orc := ent i_911 [] 0 (sp fa_911 hN0 fr_911 hN0 G_911 (outN fr_911))
theorem ok_911 : OrcOk PR c_911 := fnT okO_911 mixed p_911 (by kernel_rfl) (by kernel_rfl) (L := L0) (kp := false) (by kernel_rfl) (inn := (innN fr_911)) (out := (outN fr_911)) (fun _ _ => rfl) (loopsL (l := []) (by kernel_rfl) trivial) (fun x y => by kernel_rfl)
noncomputable def O_98 : Orc := (orm c_915 (orm c_9c (orm c_916 (orm c_917 (orm c_918 (orm c_9d (orm c_910 (orm c_9f c_911))))))))
theorem okO_98 : OrcOk PR O_98 := (orm_ok ok_915 (orm_ok ok_9c (orm_ok ok_916 (orm_ok ok_917 (orm_ok ok_918 (orm_ok ok_9d (orm_ok ok_910 (orm_ok ok_9f ok_911))))))))
abbrev fa_98 : Fm := (.pair (.agg (.pair (.i .i64) (.pair (.i .i64) (.pair (.i .i64) (.pair (.si .u32) .unit))))) (.pair (.si .i64) .unit))
abbrev fr_98 : Fm := (.tup (.pair (.i .u32) (.pair (.agg (.pair (.i .i64) (.pair (.i .i64) (.pair (.i .i64) (.pair (.si .u32) .unit))))) (.pair (.i .i64) .unit))))
abbrev ff_98_1 : Fm := (.us 5 (.cst (.ref 0 1 0) (.us 1 (.cst (.ref 1 1 0) (.us 1 (.pair (.i .u32) (.cst (.ref 2 1 0) (.pair (.i .u32) (.us 1 (.pair (.i .i64) (.us 2 (.pair (.i .u32) (.us 22 (.pair (.si .i64) (.pair (.i .i64) (.pair (.i .i64) (.us 24 (.pair (.si .u32) (.pair (.i .i64) (.pair (.i .i64) (.us 27 .unit)))))))))))))))))))))
abbrev hf_98_1 : List BF := [(.list 1 y_90 true (.pair (.i .i64) (.pair (.i .i64) (.pair (.i .i64) (.cst .nils .unit))))), (.list 1 y_90 true (.pair (.i .i64) (.pair (.i .i64) (.pair (.i .i64) (.pair (.si .u32) .unit))))), (.list 1 y_90 true (.pair (.i .i64) (.pair (.i .i64) (.pair (.i .i64) (.pair (.own 3 1 0 1) .unit))))), (.ints 1 y_91 true .u32)]
abbrev X_98_1 : Xs := (.one (.exit 2) [5, 7, 9, 10, 11, 39, 40, 41] (.us 5 (.cst (.ref 0 1 0) (.us 1 (.cst (.ref 1 1 0) (.us 1 (.pair (.i .u32) (.cst (.ref 2 1 0) (.pair (.i .u32) (.us 27 (.pair (.si .i64) (.pair (.i .i64) (.pair (.i .i64) (.us 54 .unit))))))))))))) [(.list 1 y_90 true (.pair (.i .i64) (.pair (.i .i64) (.pair (.i .i64) (.cst .nils .unit))))), (.list 1 y_90 true (.pair (.i .i64) (.pair (.i .i64) (.pair (.i .i64) (.pair (.si .u32) .unit))))), (.list 1 y_90 true (.pair (.i .i64) (.pair (.i .i64) (.pair (.i .i64) (.pair (.own 3 1 0 1) .unit))))), (.ints 1 y_91 true .u32)])
abbrev S_98_1 : Type := T ff_98_1 × TH hf_98_1
abbrev E_98_1 : Type := TX X_98_1
noncomputable def LB_98_1 : Lps := L0
noncomputable def st_98_1 : StepT S_98_1 E_98_1 := fun R v kn ko =>
 let x0 : List Int := v.1.2.2.2.2.2.2.2.1
 let x1 : Int := v.1.2.2.2.2.2.2.2.2.2.1
 let x2 : Int := v.1.2.2.2.1
 let x3 : Int := v.1.2.2.1
 let x4 : Int := v.1.1
 let x5 : Int := v.1.2.1
 let x6 : List Int := v.1.2.2.2.2.1
 let x7 : List Int := (List.take (List.length x6) x6)
 let x8 : Int := v.1.2.2.2.2.2.1
 let x9 : Int := v.1.2.2.2.2.2.2.1
 let x10 : List Int := v.2.2.1.2.2.2.1
 let x11 : Nat := v.2.2.2.1.2.2.2.1
 bif (decide (x1 < v.1.2.2.2.2.2.2.2.2.1)) then
 bif (decide (((0:Int) ≤ x1) ∧ (x1 < (((List.length x0) : Nat) : Int)))) then
 ((F_9f (List.getD x0 (Int.toNat x1) (0:Int)) x2)).bind fun r12 =>
 ((F_9d r12 (bif (x1 == x3) then (1065353216:Int) else (0:Int)))).bind fun r13 =>
 ((F_9f r13 x4)).bind fun r14 =>
 bif (decide ((x11 + (1:Nat)) ≤ (1073741824:Nat))) then
 (kn ((x4, (x5, (x3, (x2, (x7, (x8, (x9, ((List.take (List.length x0) x0), (v.1.2.2.2.2.2.2.2.2.1, ((IntKind.wrap .i64 (x1 + (1:Int))), ())))))))))), (v.2.1, ((v.2.2.1.1, (v.2.2.1.2.1, (v.2.2.1.2.2.1, ((List.take (List.length x10) x10), ())))), ((v.2.2.2.1.1, (v.2.2.2.1.2.1, (v.2.2.2.1.2.2.1, ((x11 + (1:Nat)), ())))), (((List.take x11 v.2.2.2.2.1) ++ [r14]), ()))))))
 else
 none
 else
 none
 else
 (ko ((x4, (x5, (x7, (x8, (x9, ()))))), (v.2.1, ((v.2.2.1.1, (v.2.2.1.2.1, (v.2.2.1.2.2.1, ((List.take (List.length x10) x10), ())))), v.2.2.2))))
noncomputable def ls_98_1 : St → LTr := (lsum ff_98_1 hf_98_1 X_98_1 Prod.mk id st_98_1 (hd [] [] [5, 7, 9, 10, 11, 13, 16, 39, 40, 41, 66, 67, 68] 0))
theorem lp_98_1 : LoopOk PR 0 (lpN f_98 1) ls_98_1 := loopT okO_98 mixed (L := LB_98_1) (d := 2) (bs := []) (ks := [5, 7, 9, 10, 11, 13, 16, 39, 40, 41, 66, 67, 68]) (loopsL (l := []) (by kernel_rfl) trivial) (by kernel_rfl) (inS := Prod.mk) (outS := id) (fun _ _ => rfl) (inX := id) (outX := id) (fun _ => rfl) (fun v R kn ko => by kernel_rfl) (hd_wk [] [] [5, 7, 9, 10, 11, 13, 16, 39, 40, 41, 66, 67, 68] 0)
abbrev ff_98_0 : Fm := (.us 5 (.cst (.ref 0 1 0) (.us 1 (.cst (.ref 1 1 0) (.us 1 (.pair (.i .u32) (.cst (.ref 2 1 0) (.pair (.i .u32) (.us 27 (.pair (.si .i64) (.pair (.i .i64) (.pair (.i .i64) (.us 54 .unit)))))))))))))
abbrev hf_98_0 : List BF := [(.list 1 y_90 true (.pair (.i .i64) (.pair (.i .i64) (.pair (.i .i64) (.cst .nils .unit))))), (.list 1 y_90 true (.pair (.i .i64) (.pair (.i .i64) (.pair (.i .i64) (.pair (.si .u32) .unit))))), (.list 1 y_90 true (.pair (.i .i64) (.pair (.i .i64) (.pair (.i .i64) (.pair (.own 3 1 0 1) .unit))))), (.ints 1 y_91 true .u32)]
abbrev X_98_0 : Xs := (.one (.exit 0) [5, 7, 9, 10, 11] (.us 5 (.cst (.ref 0 1 0) (.us 1 (.cst (.ref 1 1 0) (.us 1 (.pair (.i .u32) (.cst (.ref 2 1 0) (.pair (.i .u32) (.us 84 .unit))))))))) [(.list 1 y_90 true (.pair (.i .i64) (.pair (.i .i64) (.pair (.i .i64) (.cst .nils .unit))))), (.list 1 y_90 true (.pair (.i .i64) (.pair (.i .i64) (.pair (.i .i64) (.pair (.si .u32) .unit))))), (.list 1 y_90 true (.pair (.i .i64) (.pair (.i .i64) (.pair (.i .i64) (.pair (.own 3 1 0 1) .unit))))), (.ints 1 y_91 true .u32)])
abbrev S_98_0 : Type := T ff_98_0 × TH hf_98_0
abbrev E_98_0 : Type := TX X_98_0
noncomputable def LB_98_0 : Lps := (lpB 15 (.by_ ls_98_1) L0)
noncomputable def st_98_0 : StepT S_98_0 E_98_0 := fun R v kn ko =>
 let x0 : List Int := v.2.2.1.2.2.2.1
 let x1 : Int := v.1.2.2.2.2.1
 let x2 : List Int := v.1.2.2.1
 let x3 : Int := (List.getD x2 (Int.toNat x1) (0:Int))
 let x4 : Int := v.1.2.1
 let x5 : Int := v.1.1
 bif (decide (x1 < v.1.2.2.2.1)) then
 bif (decide (((0:Int) ≤ x1) ∧ (x1 < (((List.length x2) : Nat) : Int)))) then
 ((F_916 (v.2.2.1.1, (v.2.2.1.2.1, (v.2.2.1.2.2.1, ((List.take (List.length x0) x0), ())))) x1)).bind fun r6 =>
 ((F_917 (List.take (List.length r6) r6))).bind fun r7 =>
 let x8 : Int := r7.2.2.1
 ((F_918 r7.2.1)).bind fun r9 =>
 bif (decide (((0:Int) ≤ x3) ∧ (x3 < (((List.length r6) : Nat) : Int)))) then
 ((F_9d (List.getD r6 (Int.toNat x3) (0:Int)) x8)).bind fun r10 =>
 ((F_9d r9 r10)).bind fun r11 =>
 ((F_910 x4 r11)).bind fun r12 =>
 ((lim st_98_1 ((x5, (r12, (x3, (r7.2.1, ((List.take (List.length x2) x2), (v.1.2.2.2.1, (x1, ((List.take (List.length r7.1) r7.1), ((((List.length r7.1) : Nat) : Int), ((0:Int), ())))))))))), (v.2.1, ((v.2.2.1.1, (v.2.2.1.2.1, (v.2.2.1.2.2.1, ((List.take (List.length x0) x0), ())))), v.2.2.2))))).bind fun r13 =>
 let x14 : List Int := r13.1.2.2.1
 let x15 : List Int := r13.2.2.1.2.2.2.1
 (kn ((r13.1.1, (r13.1.2.1, ((List.take (List.length x14) x14), (r13.1.2.2.2.1, ((IntKind.wrap .i64 (r13.1.2.2.2.2.1 + (1:Int))), ()))))), (r13.2.1, ((r13.2.2.1.1, (r13.2.2.1.2.1, (r13.2.2.1.2.2.1, ((List.take (List.length x15) x15), ())))), r13.2.2.2))))
 else
 none
 else
 none
 else
 (ko ((x5, (x4, ())), (v.2.1, ((v.2.2.1.1, (v.2.2.1.2.1, (v.2.2.1.2.2.1, ((List.take (List.length x0) x0), ())))), v.2.2.2))))
noncomputable def ls_98_0 : St → LTr := (lsum ff_98_0 hf_98_0 X_98_0 Prod.mk id st_98_0 (hd [(.via 10 3, y_91, 0, .ints .u32)] [] [5, 7, 9, 10, 11, 39, 40, 41] 0))
theorem lp_98_0 : LoopOk PR 0 (lpN f_98 0) ls_98_0 := loopT okO_98 mixed (L := LB_98_0) (d := 1) (bs := []) (ks := [5, 7, 9, 10, 11, 39, 40, 41]) (loopsL (l := [((lpN f_98 1), ls_98_1)]) (by kernel_rfl) ⟨lp_98_1, trivial⟩) (by kernel_rfl) (inS := Prod.mk) (outS := id) (fun _ _ => rfl) (inX := id) (outX := id) (fun _ => rfl) (fun v R kn ko => by kernel_rfl) (hd_wk [(.via 10 3, y_91, 0, .ints .u32)] [] [5, 7, 9, 10, 11, 39, 40, 41] 0)
noncomputable def L_98 : Lps := (lpB 9 (.by_ ls_98_0) (lpB 15 (.by_ ls_98_1) L0))
noncomputable def F_98 (a0 : Int × Int × Int × List Int × Unit) (a1 : List Int) : Option (Int × (Int × Int × Int × List Int × Unit) × Int × Unit) :=
 let x0 : Int := a0.2.2.1
 let x1 : List Int := a0.2.2.2.1
 let x2 : List Int := (List.take (List.length a1) a1)
 ((F_915 (a0.1, (a0.2.1, (x0, ((List.take (List.length x1) x1), ())))) x2)).bind fun r3 =>
 let x4 : Int := r3.1.2.1
 let x5 : Int := r3.1.2.2.1
 let x6 : List Int := r3.1.2.2.2.1
 bif (r3.2.1 != (0:Int)) then
 (some ((0:Int), (((0:Int), ((0:Int), ((0:Int), ([], ())))), r3.2)))
 else
 ((F_9c r3.1.1)).bind fun r7 =>
 ((lim st_98_0 ((r7, ((0:Int), (x2, ((((List.length a1) : Nat) : Int), ((0:Int), ()))))), (((0:Int), ((0:Int), ((0:Int), ()))), ((r3.1.1, (x4, (x5, ((List.take (List.length x6) x6), ())))), ((r3.1.1, (x4, ((2:Int), ((0:Nat), ())))), ([], ()))))))).bind fun r8 =>
 ((F_911 r8.1.2.1 r8.1.1 r8.2.2.1.1)).bind fun r9 =>
 (some (r9, ((r8.2.2.2.1.1, (r8.2.2.2.1.2.1, (r8.2.2.2.1.2.2.1, ((List.take r8.2.2.2.1.2.2.2.1 (List.drop (0:Nat) r8.2.2.2.2.1)), ())))), ((0:Int), ()))))
noncomputable def G_98 : T fa_98 → TH hN0 → Option (Int × (Int × Int × Int × List Int × Unit) × Int × Unit) := fun x y => F_98 x.1 x.2.1
noncomputable def c_98 : Orc := ent i_98 [] 0 (sp fa_98 hN0 fr_98 hN0 G_98 (outN fr_98))
theorem ok_98 : OrcOk PR c_98 := fnT okO_98 mixed p_98 (by kernel_rfl) (by kernel_rfl) (L := L_98) (kp := false) (by kernel_rfl) (inn := (innN fr_98)) (out := (outN fr_98)) (fun _ _ => rfl) (loopsL (l := [((lpN f_98 0), ls_98_0)]) (by kernel_rfl) ⟨lp_98_0, trivial⟩) (fun x y => by kernel_rfl)
noncomputable def O_96 : Orc := (orm c_9b (orm c_9c (orm c_9d (orm c_9e (orm c_910 (orm c_9f c_911))))))
theorem okO_96 : OrcOk PR O_96 := (orm_ok ok_9b (orm_ok ok_9c (orm_ok ok_9d (orm_ok ok_9e (orm_ok ok_910 (orm_ok ok_9f ok_911))))))
abbrev fa_96 : Fm := (.pair (.agg (.pair (.i .i64) (.pair (.i .i64) (.pair (.i .i64) (.pair (.si .u32) .unit))))) (.pair (.agg (.pair (.i .i64) (.pair (.i .i64) (.pair (.i .i64) (.pair (.si .u32) .unit))))) .unit))
abbrev fr_96 : Fm := (.tup (.pair (.i .u32) (.pair (.agg (.pair (.i .i64) (.pair (.i .i64) (.pair (.i .i64) (.pair (.si .u32) .unit))))) (.pair (.i .i64) .unit))))
abbrev ff_96_0 : Fm := (.us 5 (.cst (.ref 0 1 0) (.us 1 (.cst (.ref 1 1 0) (.us 1 (.cst (.ref 2 1 0) (.us 1 (.pair (.i .u32) (.cst (.ref 3 1 0) (.pair (.i .u32) (.us 46 (.pair (.si .u32) (.pair (.i .i64) (.pair (.i .i64) (.us 32 .unit)))))))))))))))
abbrev hf_96_0 : List BF := [(.list 1 y_90 true (.pair (.i .i64) (.pair (.i .i64) (.pair (.i .i64) (.cst .nils .unit))))), (.list 1 y_90 true (.pair (.i .i64) (.pair (.i .i64) (.pair (.i .i64) (.pair (.si .u32) .unit))))), (.list 1 y_90 true (.pair (.i .i64) (.pair (.i .i64) (.pair (.i .i64) (.pair (.si .u32) .unit))))), (.list 1 y_90 true (.pair (.i .i64) (.pair (.i .i64) (.pair (.i .i64) (.pair (.own 4 1 0 1) .unit))))), (.ints 1 y_91 true .u32)]
abbrev X_96_0 : Xs := (.one (.exit 0) [5, 7, 11, 12, 13] (.us 5 (.cst (.ref 0 1 0) (.us 1 (.cst (.ref 1 1 0) (.us 3 (.pair (.i .u32) (.cst (.ref 2 1 0) (.pair (.i .u32) (.us 81 .unit))))))))) [(.list 1 y_90 true (.pair (.i .i64) (.pair (.i .i64) (.pair (.i .i64) (.cst .nils .unit))))), (.list 1 y_90 true (.pair (.i .i64) (.pair (.i .i64) (.pair (.i .i64) (.pair (.si .u32) .unit))))), (.list 1 y_90 true (.pair (.i .i64) (.pair (.i .i64) (.pair (.i .i64) (.pair (.own 3 1 0 1) .unit))))), (.ints 1 y_91 true .u32)])
abbrev S_96_0 : Type := T ff_96_0 × TH hf_96_0
abbrev E_96_0 : Type := TX X_96_0
noncomputable def LB_96_0 : Lps := L0
noncomputable def st_96_0 : StepT S_96_0 E_96_0 := fun R v kn ko =>
 let x0 : List Int := v.1.2.2.1
 let x1 : Int := v.1.2.2.2.2.1
 let x2 : Nat := (Int.toNat x1)
 let x3 : List Int := v.2.2.2.1.2.2.2.1
 let x4 : Int := v.1.2.1
 let x5 : Int := v.1.1
 let x6 : List Int := v.2.2.1.2.2.2.1
 let x7 : Nat := v.2.2.2.2.1.2.2.2.1
 bif (decide (x1 < v.1.2.2.2.1)) then
 bif (decide (((0:Int) ≤ x1) ∧ (x1 < (((List.length x0) : Nat) : Int)))) then
 bif (decide (((0:Int) ≤ x1) ∧ (x1 < (((List.length x3) : Nat) : Int)))) then
 ((F_9d (List.getD x0 x2 (0:Int)) (List.getD x3 x2 (0:Int)))).bind fun r8 =>
 ((F_9e r8 r8 x4)).bind fun r9 =>
 ((F_910 r8 r8)).bind fun r10 =>
 ((F_9f r10 x5)).bind fun r11 =>
 bif (decide ((x7 + (1:Nat)) ≤ (1073741824:Nat))) then
 (kn ((x5, (r9, ((List.take (List.length x0) x0), (v.1.2.2.2.1, ((IntKind.wrap .i64 (x1 + (1:Int))), ()))))), (v.2.1, ((v.2.2.1.1, (v.2.2.1.2.1, (v.2.2.1.2.2.1, ((List.take (List.length x6) x6), ())))), ((v.2.2.2.1.1, (v.2.2.2.1.2.1, (v.2.2.2.1.2.2.1, ((List.take (List.length x3) x3), ())))), ((v.2.2.2.2.1.1, (v.2.2.2.2.1.2.1, (v.2.2.2.2.1.2.2.1, ((x7 + (1:Nat)), ())))), (((List.take x7 v.2.2.2.2.2.1) ++ [r11]), ())))))))
 else
 none
 else
 none
 else
 none
 else
 (ko ((x5, (x4, ())), (v.2.1, ((v.2.2.1.1, (v.2.2.1.2.1, (v.2.2.1.2.2.1, ((List.take (List.length x6) x6), ())))), v.2.2.2.2))))
noncomputable def ls_96_0 : St → LTr := (lsum ff_96_0 hf_96_0 X_96_0 Prod.mk id st_96_0 (hd [(.via 12 3, y_91, 0, .ints .u32)] [] [5, 7, 9, 11, 12, 13, 60, 61, 62] 0))
theorem lp_96_0 : LoopOk PR 0 (lpN f_96 0) ls_96_0 := loopT okO_96 mixed (L := LB_96_0) (d := 1) (bs := []) (ks := [5, 7, 9, 11, 12, 13, 60, 61, 62]) (loopsL (l := []) (by kernel_rfl) trivial) (by kernel_rfl) (inS := Prod.mk) (outS := id) (fun _ _ => rfl) (inX := id) (outX := id) (fun _ => rfl) (fun v R kn ko => by kernel_rfl) (hd_wk [(.via 12 3, y_91, 0, .ints .u32)] [] [5, 7, 9, 11, 12, 13, 60, 61, 62] 0)
noncomputable def L_96 : Lps := (lpB 10 (.by_ ls_96_0) L0)
noncomputable def F_96 (a0 : Int × Int × Int × List Int × Unit) (a1 : Int × Int × Int × List Int × Unit) : Option (Int × (Int × Int × Int × List Int × Unit) × Int × Unit) :=
 let x0 : Int := a0.2.2.1
 let x1 : List Int := a0.2.2.2.1
 let x2 : Int := a1.2.2.1
 let x3 : List Int := a1.2.2.2.1
 ((F_9b (a0.1, (a0.2.1, (x0, ((List.take (List.length x1) x1), ())))))).bind fun r4 =>
 let x5 : Int := r4.1.2.1
 let x6 : List Int := r4.1.2.2.2.1
 let x7 : Nat := (List.length x6)
 let x8 : List Int := (List.take x7 x6)
 let x9 : Int := r4.1.2.2.1
 ((F_9b (a1.1, (a1.2.1, (x2, ((List.take (List.length x3) x3), ())))))).bind fun r10 =>
 let x11 : Int := r10.1.2.1
 let x12 : Int := r10.1.2.2.1
 let x13 : List Int := r10.1.2.2.2.1
 bif (r4.2.1 != (0:Int)) then
 (some ((0:Int), (((0:Int), ((0:Int), ((0:Int), ([], ())))), ((21:Int), ()))))
 else
 bif (r10.2.1 != (0:Int)) then
 (some ((0:Int), (((0:Int), ((0:Int), ((0:Int), ([], ())))), ((21:Int), ()))))
 else
 bif (r4.1.1 != r10.1.1) then
 (some ((0:Int), (((0:Int), ((0:Int), ((0:Int), ([], ())))), ((21:Int), ()))))
 else
 bif (x5 != x11) then
 (some ((0:Int), (((0:Int), ((0:Int), ((0:Int), ([], ())))), ((21:Int), ()))))
 else
 ((F_9c (IntKind.wrap .i64 (r4.1.1 * x5)))).bind fun r14 =>
 ((lim st_96_0 ((r14, ((0:Int), (x8, (((x7 : Nat) : Int), ((0:Int), ()))))), (((0:Int), ((0:Int), ((0:Int), ()))), ((r4.1.1, (x5, (x9, (x8, ())))), ((r10.1.1, (x11, (x12, ((List.take (List.length x13) x13), ())))), ((r4.1.1, (x5, ((2:Int), ((0:Nat), ())))), ([], ())))))))).bind fun r15 =>
 ((F_911 r15.1.2.1 r15.1.1 r15.2.2.1.1)).bind fun r16 =>
 (some (r16, ((r15.2.2.2.1.1, (r15.2.2.2.1.2.1, (r15.2.2.2.1.2.2.1, ((List.take r15.2.2.2.1.2.2.2.1 (List.drop (0:Nat) r15.2.2.2.2.1)), ())))), ((0:Int), ()))))
noncomputable def G_96 : T fa_96 → TH hN0 → Option (Int × (Int × Int × Int × List Int × Unit) × Int × Unit) := fun x y => F_96 x.1 x.2.1
noncomputable def c_96 : Orc := ent i_96 [] 0 (sp fa_96 hN0 fr_96 hN0 G_96 (outN fr_96))
theorem ok_96 : OrcOk PR c_96 := fnT okO_96 mixed p_96 (by kernel_rfl) (by kernel_rfl) (L := L_96) (kp := false) (by kernel_rfl) (inn := (innN fr_96)) (out := (outN fr_96)) (fun _ _ => rfl) (loopsL (l := [((lpN f_96 0), ls_96_0)]) (by kernel_rfl) ⟨lp_96_0, trivial⟩) (fun x y => by kernel_rfl)
theorem w0 : w32 0 := ⟨by decide, by decide⟩
theorem gl_mapA {h : Nat → Int} {n i : Nat} (hi : i < n) : gl ((List.range n).map h) i = h i := by
  unfold gl; rw [List.getD_eq_getElem?_getD]; simp [hi]
def yOk (c y : Int) : Bool := decide (0 ≤ y) && decide (y < c)
def labE (t : TsT) (y : List Int) : Int :=
  if rightS t = true ∧ t.1 = (y.length : Int) ∧ ¬ (t.1 > 0 ∧ t.2.1 = 0) then (if y.all (yOk t.2.1) = true then 0 else 22) else 21
theorem lab_loop (a b f : Int) (W y : List Int) (hn : y.length < 4611686018427387904) :
    lim st_915_0 ((y, ((y.length : Int), ((0 : Int), ()))), (((0:Int), ((0:Int), ((0:Int), ()))), ((a, (b, (f, (W, ())))), ()))) =
      some (if y.all (yOk b) = true then Sum.inl ((), (((0:Int), ((0:Int), ((0:Int), ()))), ((a, (b, (f, (W, ())))), ()))) else Sum.inr (((22:Int), ()), (((0:Int), ((0:Int), ((0:Int), ()))), ()))) := by
  have stp : ∀ i, i < y.length → yOk b (y.getD i 0) = true → ∀ R kn ko, st_915_0 R ((y, ((y.length : Int), ((i : Int), ()))), (((0:Int), ((0:Int), ((0:Int), ()))), ((a, (b, (f, (W, ())))), ()))) kn ko
      = kn ((y, ((y.length : Int), (((i + 1 : Nat) : Int), ()))), (((0:Int), ((0:Int), ((0:Int), ()))), ((a, (b, (f, (W, ())))), ()))) := by
    intro i hi h R kn ko
    unfold yOk at h
    simp only [Bool.and_eq_true, decide_eq_true_eq] at h
    unfold st_915_0
    dsimp only
    simp only [List.take_length, bif_dec, Int.toNat_natCast]
    rw [if_pos (show (i : Int) < (y.length : Int) by omega), if_pos (show 0 ≤ (i : Int) ∧ (i : Int) < (y.length : Int) by omega), if_neg (show ¬ y.getD i 0 < 0 by omega), if_neg (show ¬ y.getD i 0 ≥ b by omega), wi64 (by omega), show ((i + 1 : Nat) : Int) = (i : Int) + 1 by omega]
  rcases first_or (fun i => !(yOk b (y.getD i 0))) y.length with h | ⟨k, hk, hb, hx⟩
  · have ha : y.all (yOk b) = true := all_get.2 fun i hi => by have := h i hi; simpa using this
    rw [if_pos ha]
    exact lim_seq (st := st_915_0) (fun i => ((y, ((y.length : Int), ((i : Int), ()))), (((0:Int), ((0:Int), ((0:Int), ()))), ((a, (b, (f, (W, ())))), ())))) y.length
      (fun i hi => stp i hi (by have := h i hi; simpa using this))
      (fun R kn ko => by
        unfold st_915_0
        dsimp only
        simp only [List.take_length, bif_dec]
        rw [if_neg (show ¬ (y.length : Int) < (y.length : Int) by omega)])
  · have ha : ¬ y.all (yOk b) = true := fun q => by have := all_get.1 q k hk; rw [this] at hx; cases hx
    rw [if_neg ha]
    exact lim_seq (st := st_915_0) (fun i => ((y, ((y.length : Int), ((i : Int), ()))), (((0:Int), ((0:Int), ((0:Int), ()))), ((a, (b, (f, (W, ())))), ())))) k
      (fun i hi => stp i (by omega) (by have := hb i hi; simpa using this))
      (fun R kn ko => by
        have hx' : ¬ (0 ≤ y.getD k 0 ∧ y.getD k 0 < b) := by
          intro q; have : yOk b (y.getD k 0) = true := by unfold yOk; rw [decide_eq_true q.1, decide_eq_true q.2]; rfl
          simp only [this] at hx; cases hx
        unfold st_915_0
        dsimp only
        simp only [List.take_length, bif_dec, Int.toNat_natCast]
        rw [if_pos (show (k : Int) < (y.length : Int) by omega), if_pos (show 0 ≤ (k : Int) ∧ (k : Int) < (y.length : Int) by omega)]
        by_cases c : y.getD k 0 < 0
        · rw [if_pos c]
        · rw [if_neg c, if_pos (show y.getD k 0 ≥ b by omega)])
theorem labE_bad {t : TsT} {y : List Int} (h : ¬ (rightS t = true ∧ t.1 = (y.length : Int) ∧ ¬ (t.1 > 0 ∧ t.2.1 = 0))) : labE t y = 21 := by unfold labE; rw [if_neg h]
theorem labE_ok {t : TsT} {y : List Int} (h : rightS t = true ∧ t.1 = (y.length : Int) ∧ ¬ (t.1 > 0 ∧ t.2.1 = 0)) : labE t y = if y.all (yOk t.2.1) = true then 0 else 22 := by unfold labE; rw [if_pos h]
theorem labelled_eq (t : TsT) (y : List Int) (hl : wl t.2.2.2.1) (hn : t.2.2.2.1.length ≤ 1073741824) (hy : y.length < 4611686018427387904) :
    F_915 t y = some (if labE t y = 0 then ((t.1, t.2.1, 2, wideL t, ()), 0, ()) else (noT, labE t y, ())) := by
  have hw := wide_eq t hl hn
  have B := fun h => @labE_bad t y h
  have O := fun h => @labE_ok t y h
  obtain ⟨a, b, f, A, ⟨⟩⟩ := t
  simp only at hl hn hw B O
  have L := lab_loop a b 2 (wideL (a, b, f, A, ())) y hy
  unfold F_915
  dsimp only
  simp only [List.take_length]
  rw [show F_9b (a, (b, (f, (A, ())))) = _ from hw]
  cases hr : rightS (a, b, f, A, ())
  · rw [B (by rw [hr]; simp)]; rfl
  · rw [hr] at B O
    simp only [Option.bind_some, if_true, bif_ne, List.take_length, bif_dec, bif_eq]
    by_cases h1 : a = (y.length : Int)
    · rw [if_pos h1, L]
      by_cases h2 : a > 0
      · rw [if_pos h2]
        by_cases h3 : b = 0
        · rw [if_pos h3, B (by rintro ⟨_, _, q⟩; exact q ⟨h2, h3⟩)]; rfl
        · rw [if_neg h3, O ⟨rfl, h1, fun q => h3 q.2⟩]
          cases y.all (yOk b) <;> simp [els]
      · rw [if_neg h2, O ⟨rfl, h1, fun q => h2 q.1⟩]
        cases y.all (yOk b) <;> simp [els]
    · rw [if_neg h1, B (fun q => h1 q.2.1)]; rfl
def mseA (X Z : Nat → Int) : Nat → Int
  | 0 => 0
  | n + 1 => fma (subf (X n) (Z n)) (subf (X n) (Z n)) (mseA X Z n)
theorem mseA_w (X Z : Nat → Int) : ∀ n, w32 (mseA X Z n)
  | 0 => w0
  | n + 1 => fma_w _ _ _
def mseH (X Z : Nat → Int) (m : Int) (i : Nat) : Int := divf (addf (subf (X i) (Z i)) (subf (X i) (Z i))) m
def mseT (t u : TsT) : Int × TsT × Int × Unit :=
  if rightS t && rightS u && (decide (t.1 = u.1) && decide (t.2.1 = u.2.1)) then
    (if t.1 = 0 then 0 else divf (mseA (gl (wideL t)) (gl (wideL u)) t.2.2.2.1.length) (intf t.2.2.2.1.length), (t.1, t.2.1, 2, (List.range t.2.2.2.1.length).map (mseH (gl (wideL t)) (gl (wideL u)) (intf t.2.2.2.1.length)), ()), 0, ())
  else (0, noT, 21, ())
theorem range_app (h : Nat → Int) (i : Nat) : (List.range i).map h ++ [h i] = (List.range (i + 1)).map h := by
  rw [List.range_succ, List.map_append]; rfl
theorem mse_eq (t u : TsT) (hl : wl t.2.2.2.1) (hn : t.2.2.2.1.length ≤ 1073741824) (ul : wl u.2.2.2.1) (un : u.2.2.2.1.length ≤ 1073741824) : F_96 t u = some (mseT t u) := by
  have r1 := wide_eq t hl hn
  have r2 := wide_eq u ul un
  unfold mseT
  obtain ⟨a1, a2, a3, A, ⟨⟩⟩ := t
  obtain ⟨b1, b2, b3, B, ⟨⟩⟩ := u
  simp only at hl hn ul un
  unfold F_96
  dsimp only
  simp only [List.take_length]
  rw [show F_9b (a1, (a2, (a3, (A, ())))) = _ from r1]
  simp only [Option.bind_some]
  rw [show F_9b (b1, (b2, (b3, (B, ())))) = _ from r2]
  simp only [Option.bind_some]
  cases c1 : rightS (a1, a2, a3, A, ())
  · simp [bif_ne]
  cases c2 : rightS (b1, b2, b3, B, ())
  · simp [bif_ne]
  simp only [if_true, bif_ne, Bool.true_and]
  by_cases h1 : a1 = b1
  · by_cases h2 : a2 = b2
    · subst h1; subst h2
      obtain ⟨R, C, rfl, rfl, hR, hC, lA, _, _⟩ := right_nat c1
      obtain ⟨R', C', e1, e2, _, _, lB, _, _⟩ := right_nat c2
      obtain rfl : R = R' := by omega
      obtain rfl : C = C' := by omega
      have hb := rc_bd hR hC
      rw [if_pos rfl, if_pos rfl, decide_eq_true rfl, decide_eq_true rfl]
      have eRC : (R : Int) * (C : Int) = ((R * C : Nat) : Int) := by simp
      rw [eRC, wi64 (n := ((R * C : Nat) : Int)) (by omega), ← lA, fsint_eq (by omega)]
      simp only [Option.bind_some, List.take_length, Bool.and_self, if_true]
      have lX := wideL_len ((R : Int), (C : Int), a3, A, ())
      have lZ := wideL_len ((R : Int), (C : Int), b3, B, ())
      have wX := wideL_wl ((R : Int), (C : Int), a3, A, ())
      have wZ := wideL_wl ((R : Int), (C : Int), b3, B, ())
      simp only at lX lZ
      generalize wideL ((R : Int), (C : Int), a3, A, ()) = X at *
      generalize wideL ((R : Int), (C : Int), b3, B, ()) = Z at *
      have wm := intf_w (A.length : Int)
      generalize intf (A.length : Int) = m at *
      have := lim_seq (st := st_96_0) (fun i => ((m, (mseA (gl X) (gl Z) i, (X, ((X.length : Int), ((i : Int), ()))))), (((0:Int), ((0:Int), ((0:Int), ()))), (((R : Int), ((C : Int), ((2:Int), (X, ())))), (((R : Int), ((C : Int), ((2:Int), (Z, ())))), (((R : Int), ((C : Int), ((2:Int), (i, ())))), ((List.range i).map (mseH (gl X) (gl Z) m), ())))))))
        (b := ((m, (mseA (gl X) (gl Z) X.length, ())), (((0:Int), ((0:Int), ((0:Int), ()))), (((R : Int), ((C : Int), ((2:Int), (X, ())))), (((R : Int), ((C : Int), ((2:Int), (X.length, ())))), ((List.range X.length).map (mseH (gl X) (gl Z) m), ())))))) X.length
        (fun i hi Q kn ko => by
          have e1 := fsub_eq (wl_get wX i) (wl_get wZ i)
          have wd : w32 (subf (X.getD i 0) (Z.getD i 0)) := subf_w _ _
          have hl2 : List.take i ((List.range i).map (mseH (gl X) (gl Z) m)) = (List.range i).map (mseH (gl X) (gl Z) m) := List.take_of_length_le (by simp)
          unfold st_96_0
          dsimp only
          simp only [List.take_length, bif_dec, Int.toNat_natCast, hl2]
          rw [if_pos (show (i : Int) < (X.length : Int) by omega), if_pos (show 0 ≤ (i : Int) ∧ (i : Int) < (X.length : Int) by omega), if_pos (show 0 ≤ (i : Int) ∧ (i : Int) < (Z.length : Int) by omega)]
          rw [show F_9d (X.getD i 0) (Z.getD i 0) = _ from e1]
          simp only [Option.bind_some]
          rw [ffma_eq wd wd (mseA_w _ _ i)]
          simp only [Option.bind_some]
          rw [fadd_eq wd wd]
          simp only [Option.bind_some]
          rw [fdiv_eq (addf_w _ _) wm]
          simp only [Option.bind_some]
          rw [if_pos (show i + 1 ≤ 1073741824 by omega), wi64 (by omega), show ((i + 1 : Nat) : Int) = (i : Int) + 1 by omega, ← range_app]
          rfl)
        (fun Q kn ko => by
          unfold st_96_0
          dsimp only
          simp only [List.take_length, bif_dec]
          rw [if_neg (show ¬ (X.length : Int) < (X.length : Int) by omega)])
      have e : lim st_96_0 ((m, ((0 : Int), (X, ((X.length : Int), ((0 : Int), ()))))), (((0:Int), ((0:Int), ((0:Int), ()))), (((R : Int), ((C : Int), ((2:Int), (X, ())))), (((R : Int), ((C : Int), ((2:Int), (Z, ())))), (((R : Int), ((C : Int), ((2:Int), ((0:Nat), ())))), ([], ())))))) = _ := this
      rw [e]
      simp only [Option.bind_some, List.drop_zero]
      have hl3 : List.take X.length ((List.range X.length).map (mseH (gl X) (gl Z) m)) = (List.range X.length).map (mseH (gl X) (gl Z) m) := List.take_of_length_le (by simp)
      rw [hl3, lX]
      unfold F_911
      rw [bif_eq]
      by_cases h0 : (R : Int) = 0
      · rw [if_pos h0, if_pos h0]; rfl
      · rw [if_neg h0, if_neg h0, fdiv_eq (mseA_w _ _ _) wm]; rfl
    · rw [if_pos h1, if_neg h2, decide_eq_false h2]; simp
  · rw [if_neg h1, decide_eq_false h1]; simp
theorem pick_eq (f : Int) {a b : Int} (ha : w32 a) (hb : w32 b) (t : Bool) : F_94b f a b t = some (pck f a b t) := by
  unfold F_94b pck
  rw [isnan_eq f ha, isnan_eq f hb, mask_eq, nan_w]
  simp only [Option.bind_some, and_TT f ha.1 ha.2, and_TT f hb.1 hb.2]
  cases nan f a <;> cases nan f b <;> cases t <;> rfl
theorem max_eq' (f : Int) {a b : Int} (ha : w32 a) (hb : w32 b) : F_928 f a b = some (pck f a b (decide (ky f a > ky f b))) := by
  unfold F_928; rw [key_eq f ha, key_eq f hb]; simp only [Option.bind_some, pick_eq f ha hb]
def mx2 (a b : Int) : Int := pck 2 a b (decide (ky 2 a > ky 2 b))
theorem mx2_w (a b : Int) : w32 (mx2 a b) := by
  unfold mx2 pck
  have e : ∀ x : Int, w32 (x % (2 * TT 2)) := fun x => ⟨by show 0 ≤ x % 4294967296; omega, by show x % 4294967296 < 4294967296; omega⟩
  split
  · split
    · exact wlit rfl
    · exact e _
  · split
    · exact e _
    · split
      · exact e _
      · exact e _
def mxf (R : Nat → Int) (m : Int) (a : Nat) : Nat → Int
  | 0 => m
  | k + 1 => mx2 (mxf R m a k) (R (a + k))
theorem mxf_w (R : Nat → Int) {m : Int} (hm : w32 m) (a : Nat) : ∀ k, w32 (mxf R m a k)
  | 0 => hm
  | k + 1 => mx2_w _ _
theorem mx2_nan {a b : Int} (ha : nan 2 a = true) (hb : nan 2 b = true) (x : Int) : mx2 a x = mx2 b x := by
  unfold mx2 pck; rw [ha, hb]; simp
theorem mx2_self {a : Int} (h : w32 a) : mx2 a a = a ∨ (nan 2 a = true ∧ nan 2 (mx2 a a) = true) := by
  have h0 := h.1
  have h1 := h.2
  have e : a % (2 * TT 2) = a := by show a % 4294967296 = a; omega
  cases hn : nan 2 a
  · left; unfold mx2 pck; rw [hn]; simp [e]
  · right; refine ⟨rfl, ?_⟩; unfold mx2 pck; rw [hn]; simp; decide
theorem mxf_two (R : Nat → Int) (h : w32 (R 0)) : ∀ k, mxf R (R 0) 0 (k + 1) = mxf R (R 0) 1 k ∨ (nan 2 (mxf R (R 0) 0 (k + 1)) = true ∧ nan 2 (mxf R (R 0) 1 k) = true)
  | 0 => by
    show mx2 (R 0) (R (0 + 0)) = R 0 ∨ _
    rcases mx2_self h with e | ⟨e1, e2⟩
    · left; exact e
    · right; exact ⟨e2, e1⟩
  | k + 1 => by
    show mx2 (mxf R (R 0) 0 (k + 1)) (R (0 + (k + 1))) = mx2 (mxf R (R 0) 1 k) (R (1 + k)) ∨ _
    rw [show 0 + (k + 1) = 1 + k by omega]
    rcases mxf_two R h k with e | ⟨e1, e2⟩
    · left; rw [e]
    · left; exact mx2_nan e1 e2 _
theorem subf_nan {a m : Int} (h : nan 2 m = true) : subf a m = 2143289344 := by
  unfold subf subS; rw [h]; simp; decide
theorem sub_two (R : Nat → Int) (h : w32 (R 0)) (k : Nat) (x : Int) : subf x (mxf R (R 0) 0 (k + 1)) = subf x (mxf R (R 0) 1 k) := by
  rcases mxf_two R h k with e | ⟨e1, e2⟩
  · rw [e]
  · rw [subf_nan e1, subf_nan e2]
def sacc (R : Nat → Int) (m : Int) : Nat → Int
  | 0 => 0
  | k + 1 => addf (sacc R m k) (expS (subf (R k) m))
theorem sacc_w (R : Nat → Int) (m : Int) : ∀ k, w32 (sacc R m k)
  | 0 => w0
  | k + 1 => addf_w _ _
theorem sacc_two (R : Nat → Int) (h : w32 (R 0)) (j : Nat) : ∀ k, sacc R (mxf R (R 0) 0 (j + 1)) k = sacc R (mxf R (R 0) 1 j) k
  | 0 => rfl
  | k + 1 => by unfold sacc; rw [sacc_two R h j k, sub_two R h]
theorem fmax_eq {a b : Int} (ha : w32 a) (hb : w32 b) : F_928 2 a b = some (mx2 a b) := max_eq' 2 ha hb
theorem shares_eq (l : List Int) (hl : wl l) (hn : l.length ≤ 1073741824) (h0 : 0 < l.length) :
    F_917 l = some ((List.range l.length).map (fun j => expS (subf (gl l j) (mxf (gl l) (gl l 0) 0 l.length))), sacc (gl l) (mxf (gl l) (gl l 0) 0 l.length) l.length, mxf (gl l) (gl l 0) 0 l.length, ()) := by
  have A := lim_seq (st := st_917_0) (fun i => ((l, (mxf (gl l) (gl l 0) 0 i, (l, ((l.length : Int), ((i : Int), ()))))), ()))
    (b := ((l, (mxf (gl l) (gl l 0) 0 l.length, ())), ())) l.length
    (fun i hi R kn ko => by
      have e1 := fmax_eq (mxf_w (gl l) (wl_get hl 0) 0 i) (wl_get hl i)
      unfold st_917_0
      dsimp only
      simp only [List.take_length, bif_dec, Int.toNat_natCast]
      rw [if_pos (show (i : Int) < (l.length : Int) by omega), if_pos (show 0 ≤ (i : Int) ∧ (i : Int) < (l.length : Int) by omega)]
      rw [show F_928 2 (mxf (gl l) (gl l 0) 0 i) (l.getD i 0) = _ from e1]
      simp only [Option.bind_some]
      rw [wi64 (by omega), show ((i + 1 : Nat) : Int) = (i : Int) + 1 by omega]
      rw [show mxf (gl l) (gl l 0) 0 (i + 1) = mx2 (mxf (gl l) (gl l 0) 0 i) (gl l (0 + i)) from rfl, show 0 + i = i by omega])
    (fun R kn ko => by
      unfold st_917_0
      dsimp only
      simp only [List.take_length, bif_dec]
      rw [if_neg (show ¬ (l.length : Int) < (l.length : Int) by omega)])
  have eA : lim st_917_0 ((l, ((List.getD l (0:Nat) (0:Int)), (l, ((l.length : Int), ((0:Int), ()))))), ()) = _ := A
  have wm := mxf_w (gl l) (wl_get hl 0) 0 l.length
  have B := fun (m : Int) (wm : w32 m) => lim_seq (st := st_917_1) (fun i => ((m, (i, (sacc (gl l) m i, (l, ((l.length : Int), ((i : Int), ())))))), ((List.range i).map (fun j => expS (subf (gl l j) m)), ())))
    (b := ((m, (l.length, (sacc (gl l) m l.length, ()))), ((List.range l.length).map (fun j => expS (subf (gl l j) m)), ()))) l.length
    (fun i hi R kn ko => by
      have e1 := fsub_eq (wl_get hl i) wm
      have hl2 : List.take i ((List.range i).map (fun j => expS (subf (gl l j) m))) = (List.range i).map (fun j => expS (subf (gl l j) m)) := List.take_of_length_le (by simp)
      unfold st_917_1
      dsimp only
      simp only [List.take_length, bif_dec, Int.toNat_natCast, hl2]
      rw [if_pos (show (i : Int) < (l.length : Int) by omega), if_pos (show 0 ≤ (i : Int) ∧ (i : Int) < (l.length : Int) by omega)]
      rw [show F_9d (l.getD i 0) m = _ from e1]
      simp only [Option.bind_some]
      rw [exp_eq (subf_w _ _)]
      simp only [Option.bind_some]
      rw [if_pos (show i + 1 ≤ 1073741824 by omega), fadd_eq (sacc_w _ _ i) exp_w]
      simp only [Option.bind_some]
      rw [wi64 (by omega), show ((i + 1 : Nat) : Int) = (i : Int) + 1 by omega, ← range_app]
      rfl)
    (fun R kn ko => by
      unfold st_917_1
      dsimp only
      simp only [List.take_length, bif_dec]
      rw [if_neg (show ¬ (l.length : Int) < (l.length : Int) by omega)])
  unfold F_917
  dsimp only
  simp only [List.take_length, bif_dec]
  rw [if_pos (by omega), eA]
  simp only [Option.bind_some, List.take_length]
  have eB : lim st_917_1 ((mxf (gl l) (gl l 0) 0 l.length, ((0:Nat), ((0:Int), (l, ((l.length : Int), ((0:Int), ())))))), ([], ())) = _ := B _ wm
  rw [eB]
  simp only [Option.bind_some, List.drop_zero]
  rw [List.take_of_length_le (by simp)]
def rwM (w : Nat → Int) (C : Nat) : Int := mxf w (w 0) 1 (C - 1)
def smG (w : Nat → Int) (C : Nat) (l m : Int) (j : Nat) : Int := divf (subf (divf (expS (subf (w j) (rwM w C))) (sacc w (rwM w C) C)) (if (j : Int) = l then 1065353216 else 0)) m
def smL (w : Nat → Int) (C : Nat) (l : Int) : Int := subf (logS (sacc w (rwM w C) C)) (subf (w l.toNat) (rwM w C))
def smA (X y : List Int) (C : Nat) : Nat → Int
  | 0 => 0
  | r + 1 => addf (smA X y C r) (smL (gl (rowL X C r)) C (y.getD r 0))
theorem smA_w (X y : List Int) (C : Nat) : ∀ r, w32 (smA X y C r)
  | 0 => w0
  | r + 1 => addf_w _ _
def smH (X y : List Int) (C : Nat) (m : Int) (k : Nat) : Int := smG (gl (rowL X C (k / C))) C (y.getD (k / C) 0) m (k % C)
theorem smH_at {X y : List Int} {C : Nat} {m : Int} {r j : Nat} (hj : j < C) : smH X y C m (r * C + j) = smG (gl (rowL X C r)) C (y.getD r 0) m j := by
  have h1 : (r * C + j) / C = r := by rw [Nat.mul_comm, Nat.mul_add_div (by omega), Nat.div_eq_of_lt hj]; omega
  have h2 : (r * C + j) % C = j := by rw [Nat.mul_comm, Nat.mul_add_mod, Nat.mod_eq_of_lt hj]
  unfold smH; rw [h1, h2]
def smT (t : TsT) (y : List Int) : Int × TsT × Int × Unit :=
  if labE t y = 0 then (if t.1 = 0 then 0 else divf (smA (wideL t) y t.2.1.toNat t.1.toNat) (intf t.1), (t.1, t.2.1, 2, (List.range (t.1.toNat * t.2.1.toNat)).map (smH (wideL t) y t.2.1.toNat (intf t.1)), ()), 0, ())
  else (0, noT, labE t y, ())
theorem shares_row {X : List Int} {R C r : Nat} (hX : X.length = R * C) (wX : wl X) (hr : r < R) (hC : 0 < C) (hC2 : C ≤ 4096) :
    ∃ mP, F_917 (rowL X C r) = some ((List.range C).map (fun j => expS (subf (gl (rowL X C r) j) (rwM (gl (rowL X C r)) C))), sacc (gl (rowL X C r)) (rwM (gl (rowL X C r)) C) C, mP, ())
      ∧ w32 mP ∧ ∀ x, subf x mP = subf x (rwM (gl (rowL X C r)) C) := by
  have hl := rowL_len hX hr
  have hw := rowL_wl (C := C) (i := r) wX
  have hs := shares_eq (rowL X C r) hw (by omega) (by omega)
  rw [hl] at hs
  generalize rowL X C r = l at *
  obtain ⟨k, rfl⟩ : ∃ k, C = k + 1 := ⟨C - 1, by omega⟩
  have w0 : w32 (gl l 0) := wl_get hw 0
  have e2 := fun x => sub_two (gl l) w0 k x
  have e3 := sacc_two (gl l) w0 k (k + 1)
  refine ⟨mxf (gl l) (gl l 0) 0 (k + 1), ?_, mxf_w _ w0 _ _, e2⟩
  rw [hs, e3]
  have : (List.range (k + 1)).map (fun j => expS (subf (gl l j) (mxf (gl l) (gl l 0) 0 (k + 1)))) = (List.range (k + 1)).map (fun j => expS (subf (gl l j) (rwM (gl l) (k + 1)))) := by
    apply List.map_congr_left
    intro j _
    rw [e2]; rfl
  rw [this]; rfl
theorem lline_eq (f : Int) (l : List Int) (R C i : Nat) (hR : R ≤ 4096) (hC : C ≤ 4096) (hl : l.length = R * C) (hi : i < R) : F_916 ((R : Int), (C : Int), f, l, ()) (i : Int) = some (rowL l C i) := by
  have h1 : (i + 1) * C ≤ R * C := Nat.mul_le_mul_right _ hi
  have h2 : R * C ≤ 4096 * 4096 := Nat.mul_le_mul hR hC
  have h3 : i * C ≤ (i + 1) * C := Nat.mul_le_mul_right _ (by omega)
  have e1 : ((i : Int) * (C : Int)) = ((i * C : Nat) : Int) := by simp
  have e2 : (((i : Int) + 1) * (C : Int)) = (((i + 1) * C : Nat) : Int) := by simp
  unfold F_916
  dsimp only
  rw [wi64 (n := (i : Int) + 1) (by omega), e1, e2, wi64 (n := ((i * C : Nat) : Int)) (by omega), wi64 (n := (((i + 1) * C : Nat) : Int)) (by omega), bif_dec, if_pos (by omega), Int.toNat_natCast, Int.toNat_natCast]
  have e3 : (i + 1) * C - i * C = C := by rw [Nat.add_mul]; omega
  rw [e3, List.take_take, Nat.min_self]; rfl
theorem grad_loop (R C r : Nat) (X y : List Int) (m tot l : Int) (z : Int × Int × Int × Unit) (hX : X.length = R * C) (wX : wl X) (hr : r < R) (hR : R ≤ 4096) (hC : 0 < C) (hC2 : C ≤ 4096) (hm : w32 m) (hl : y.getD r 0 = l) :
    lim st_98_1 ((m, (tot, (l, (sacc (gl (rowL X C r)) (rwM (gl (rowL X C r)) C) C, (y, ((y.length : Int), ((r : Int), ((List.range C).map (fun j => expS (subf (gl (rowL X C r) j) (rwM (gl (rowL X C r)) C))), ((C : Int), ((0 : Int), ())))))))))), (z, (((R : Int), ((C : Int), ((2:Int), (X, ())))), (((R : Int), ((C : Int), ((2:Int), (r * C, ())))), ((List.range (r * C)).map (smH X y C m), ()))))) =
      some ((m, (tot, (y, ((y.length : Int), ((r : Int), ()))))), (z, (((R : Int), ((C : Int), ((2:Int), (X, ())))), (((R : Int), ((C : Int), ((2:Int), ((r + 1) * C, ())))), ((List.range ((r + 1) * C)).map (smH X y C m), ()))))) := by
  have h1 : (r + 1) * C ≤ R * C := Nat.mul_le_mul_right _ hr
  have h2 : R * C ≤ 4096 * 4096 := Nat.mul_le_mul hR hC2
  have h3 : (r + 1) * C = r * C + C := by rw [Nat.add_mul]; omega
  have hw := rowL_wl (C := C) (i := r) wX
  have hgl : ∀ j, j < C → ((List.range C).map (fun j => expS (subf (gl (rowL X C r) j) (rwM (gl (rowL X C r)) C)))).getD j 0 = expS (subf (gl (rowL X C r) j) (rwM (gl (rowL X C r)) C)) := fun j hj => gl_mapA hj
  have hlen : ((List.range C).map (fun j => expS (subf (gl (rowL X C r) j) (rwM (gl (rowL X C r)) C)))).length = C := by simp
  have hH : ∀ j, j < C → smH X y C m (r * C + j) = smG (gl (rowL X C r)) C l m j := fun j hj => by rw [smH_at hj, hl]
  have ws := sacc_w (gl (rowL X C r)) (rwM (gl (rowL X C r)) C) C
  unfold smG at hH
  generalize (List.range C).map (fun j => expS (subf (gl (rowL X C r) j) (rwM (gl (rowL X C r)) C))) = E at *
  generalize sacc (gl (rowL X C r)) (rwM (gl (rowL X C r)) C) C = s at *
  have := lim_seq (st := st_98_1) (fun j => ((m, (tot, (l, (s, (y, ((y.length : Int), ((r : Int), (E, ((C : Int), ((j : Int), ())))))))))), (z, (((R : Int), ((C : Int), ((2:Int), (X, ())))), (((R : Int), ((C : Int), ((2:Int), (r * C + j, ())))), ((List.range (r * C + j)).map (smH X y C m), ()))))))
    (b := ((m, (tot, (y, ((y.length : Int), ((r : Int), ()))))), (z, (((R : Int), ((C : Int), ((2:Int), (X, ())))), (((R : Int), ((C : Int), ((2:Int), (r * C + C, ())))), ((List.range (r * C + C)).map (smH X y C m), ())))))) C
    (fun j hj Q kn ko => by
      have we : w32 (expS (subf (gl (rowL X C r) j) (rwM (gl (rowL X C r)) C))) := exp_w
      have hl2 : List.take (r * C + j) ((List.range (r * C + j)).map (smH X y C m)) = (List.range (r * C + j)).map (smH X y C m) := List.take_of_length_le (by simp)
      have wo : w32 (if (j : Int) = l then (1065353216 : Int) else 0) := by split <;> exact wlit rfl
      unfold st_98_1
      dsimp only
      simp only [List.take_length]
      simp only [bif_dec, bif_eq, Int.toNat_natCast, hl2, hlen]
      rw [if_pos (show (j : Int) < (C : Int) by omega), if_pos (show 0 ≤ (j : Int) ∧ (j : Int) < (C : Int) by omega), hgl j hj, fdiv_eq we ws]
      simp only [Option.bind_some]
      rw [fsub_eq (divf_w _ _) wo]
      simp only [Option.bind_some]
      rw [fdiv_eq (subf_w _ _) hm]
      simp only [Option.bind_some]
      rw [if_pos (show r * C + j + 1 ≤ 1073741824 by omega), wi64 (by omega), show ((j + 1 : Nat) : Int) = (j : Int) + 1 by omega, ← hH j hj, range_app]
      rfl)
    (fun Q kn ko => by
      unfold st_98_1
      dsimp only
      simp only [List.take_length, bif_dec]
      rw [if_neg (show ¬ (C : Int) < (C : Int) by omega)])
  rw [h3]
  exact this
theorem softmax_eq (t : TsT) (y : List Int) (tl : wl t.2.2.2.1) (tn : t.2.2.2.1.length ≤ 1073741824) (hy : y.length < 4611686018427387904) : F_98 t y = some (smT t y) := by
  have hlab := labelled_eq t y tl tn hy
  unfold smT
  by_cases h0 : labE t y = 0
  · rw [if_pos h0] at hlab ⊢
    have hk : rightS t = true ∧ t.1 = (y.length : Int) ∧ ¬ (t.1 > 0 ∧ t.2.1 = 0) := by
      apply Classical.byContradiction; intro q; rw [labE_bad q] at h0; cases h0
    have hall : y.all (yOk t.2.1) = true := by
      rw [labE_ok hk] at h0; apply Classical.byContradiction; intro q; rw [if_neg q] at h0; cases h0
    obtain ⟨a, b, f, A, ⟨⟩⟩ := t
    simp only at tl tn hk hall
    obtain ⟨R, C, rfl, rfl, hR, hC, lA, _, _⟩ := right_nat hk.1
    have hb := rc_bd hR hC
    have hyl : y.length = R := by have := hk.2.1; omega
    have hC0 : 0 < R → 0 < C := fun q => by have := hk.2.2; omega
    have lX := wideL_len ((R : Int), (C : Int), f, A, ())
    have wX := wideL_wl ((R : Int), (C : Int), f, A, ())
    simp only at lX
    unfold F_98
    dsimp only
    simp only [List.take_length]
    rw [show F_915 ((R : Int), ((C : Int), (f, (A, ())))) y = _ from hlab]
    simp only [Option.bind_some, bif_ne, if_true, List.take_length, Int.toNat_natCast]
    rw [fsint_eq (by omega)]
    simp only [Option.bind_some]
    rw [lA] at lX
    generalize wideL ((R : Int), (C : Int), f, A, ()) = X at *
    have wm := intf_w (R : Int)
    generalize intf (R : Int) = m at *
    have := lim_seq (st := st_98_0) (fun r => ((m, (smA X y C r, (y, ((y.length : Int), ((r : Int), ()))))), (((0:Int), ((0:Int), ((0:Int), ()))), (((R : Int), ((C : Int), ((2:Int), (X, ())))), (((R : Int), ((C : Int), ((2:Int), (r * C, ())))), ((List.range (r * C)).map (smH X y C m), ()))))))
      (b := ((m, (smA X y C R, ())), (((0:Int), ((0:Int), ((0:Int), ()))), (((R : Int), ((C : Int), ((2:Int), (X, ())))), (((R : Int), ((C : Int), ((2:Int), (R * C, ())))), ((List.range (R * C)).map (smH X y C m), ())))))) R
      (fun r hr Q kn ko => by
        have hC1 := hC0 (by omega)
        have hyr : 0 ≤ y.getD r 0 ∧ y.getD r 0 < (C : Int) := by
          have := all_get.1 hall r (by omega)
          unfold yOk at this
          simpa using this
        obtain ⟨mP, hs, wP, hP⟩ := shares_row lX wX hr hC1 hC
        have hL := lline_eq 2 X R C r hR hC lX hr
        have hrl := rowL_len lX hr
        have hrw := rowL_wl (C := C) (i := r) wX
        have hG := grad_loop R C r X y m (smA X y C (r + 1)) (y.getD r 0) ((0:Int), ((0:Int), ((0:Int), ()))) lX wX hr hR hC1 hC wm rfl
        have ws := sacc_w (gl (rowL X C r)) (rwM (gl (rowL X C r)) C) C
        unfold st_98_0
        dsimp only
        simp only [List.take_length]
        simp only [bif_dec, Int.toNat_natCast, hyl]
        rw [if_pos (show (r : Int) < (R : Int) by omega), if_pos (show 0 ≤ (r : Int) ∧ (r : Int) < (R : Int) by omega)]
        rw [show F_916 ((R : Int), ((C : Int), ((2:Int), (X, ())))) (r : Int) = _ from hL]
        simp only [Option.bind_some, List.take_length]
        rw [hs]
        simp only [Option.bind_some, hrl]
        rw [log_eq ws]
        simp only [Option.bind_some]
        rw [if_pos hyr]
        rw [show F_9d ((rowL X C r).getD (y.getD r 0).toNat 0) mP = _ from fsub_eq (wl_get hrw _) wP]
        simp only [Option.bind_some]
        rw [hP, fsub_eq (log_w ws) (subf_w _ _)]
        simp only [Option.bind_some]
        rw [fadd_eq (smA_w X y C r) (subf_w _ _)]
        simp only [Option.bind_some, List.take_length, List.length_map, List.length_range]
        rw [hyl] at hG
        rw [show addf (smA X y C r) (subf (logS (sacc (gl (rowL X C r)) (rwM (gl (rowL X C r)) C) C)) (subf ((rowL X C r).getD (y.getD r 0).toNat 0) (rwM (gl (rowL X C r)) C))) = smA X y C (r + 1) from rfl]
        rw [hG]
        simp only [Option.bind_some, List.take_length]
        rw [wi64 (by omega), show ((r + 1 : Nat) : Int) = (r : Int) + 1 by omega])
      (fun Q kn ko => by
        unfold st_98_0
        dsimp only
        simp only [List.take_length, bif_dec, hyl]
        rw [if_neg (show ¬ (R : Int) < (R : Int) by omega)])
    rw [Nat.zero_mul] at this
    rw [show lim st_98_0 ((m, ((0 : Int), (y, ((y.length : Int), ((0 : Int), ()))))), (((0:Int), ((0:Int), ((0:Int), ()))), (((R : Int), ((C : Int), ((2:Int), (X, ())))), (((R : Int), ((C : Int), ((2:Int), ((0:Nat), ())))), ([], ()))))) = _ from this]
    simp only [Option.bind_some, List.drop_zero]
    have hl3 : List.take (R * C) ((List.range (R * C)).map (smH X y C m)) = (List.range (R * C)).map (smH X y C m) := List.take_of_length_le (by simp)
    rw [hl3]
    unfold F_911
    rw [bif_eq]
    by_cases hz : (R : Int) = 0
    · rw [if_pos hz, if_pos hz]; rfl
    · rw [if_neg hz, if_neg hz, fdiv_eq (smA_w _ _ _ _) wm]; rfl
  · rw [if_neg h0] at hlab ⊢
    obtain ⟨a, b, f, A, ⟨⟩⟩ := t
    unfold F_98
    dsimp only
    simp only [List.take_length]
    rw [show F_915 (a, (b, (f, (A, ())))) y = _ from hlab]
    simp only [Option.bind_some, bif_ne]
    rw [if_neg h0]
noncomputable def O_94 : Orc := (orm c_96 c_98)
theorem okO_94 : OrcOk PR O_94 := (orm_ok ok_96 ok_98)
abbrev fa_94 : Fm := .unit
abbrev fr_94 : Fm := .b
noncomputable def F_94  : Option (Bool) :=
 ((F_96 ((1:Int), ((2:Int), ((2:Int), ([(0:Int), (0:Int)], ())))) ((1:Int), ((2:Int), ((2:Int), ([(0:Int), (0:Int)], ())))))).bind fun r0 =>
 let x1 : Int := r0.2.2.1
 let x2 : List Int := r0.2.1.2.2.2.1
 ((F_98 ((1:Int), ((2:Int), ((2:Int), ([(0:Int), (0:Int)], ())))) [(1:Int)])).bind fun r3 =>
 let x4 : Int := r3.2.2.1
 let x5 : List Int := r3.2.1.2.2.2.1
 ((F_98 ((1:Int), ((2:Int), ((2:Int), ([(0:Int), (0:Int)], ())))) [(2:Int)])).bind fun r6 =>
 let x7 : Int := r6.2.2.1
 bif (r0.1 == (0:Int)) then
 bif (x1 == (0:Int)) then
 bif ((((List.length x2) : Nat) : Int) == (2:Int)) then
 bif (x4 == (0:Int)) then
 bif ((((List.length x5) : Nat) : Int) == (2:Int)) then
 bif (decide (((0:Int) ≤ (0:Int)) ∧ ((0:Int) < (((List.length x5) : Nat) : Int)))) then
 bif ((List.getD x5 (0:Nat) (0:Int)) == (1056964608:Int)) then
 bif (decide (((0:Int) ≤ (1:Int)) ∧ ((1:Int) < (((List.length x5) : Nat) : Int)))) then
 bif ((List.getD x5 (1:Nat) (0:Int)) == (3204448256:Int)) then
 (some (x7 == (22:Int)))
 else
 (some false)
 else
 none
 else
 (some false)
 else
 none
 else
 (some false)
 else
 (some false)
 else
 (some false)
 else
 (some false)
 else
 (some false)
noncomputable def G_94 : T fa_94 → TH hN0 → Option (Bool) := fun x y => F_94
noncomputable def c_94 : Orc := ent i_94 [] 0 (sp fa_94 hN0 fr_94 hN0 G_94 (outN fr_94))
theorem ok_94 : OrcOk PR c_94 := fnT okO_94 mixed p_94 (by kernel_rfl) (by kernel_rfl) (L := L0) (kp := false) (by kernel_rfl) (inn := (innN fr_94)) (out := (outN fr_94)) (fun _ _ => rfl) (loopsL (l := []) (by kernel_rfl) trivial) (fun x y => by kernel_rfl)
theorem known16 : F_94 = some true := by
  have wA : wl [0, 0] := by intro a ha; simp at ha; subst ha; decide
  have h1 := mse_eq (1, 2, 2, [0, 0], ()) (1, 2, 2, [0, 0], ()) wA (by decide) wA (by decide)
  have h2 := softmax_eq (1, 2, 2, [0, 0], ()) [1] wA (by decide) (by decide)
  have h3 := softmax_eq (1, 2, 2, [0, 0], ()) [2] wA (by decide) (by decide)
  have v1 : mseT (1, 2, 2, [0, 0], ()) (1, 2, 2, [0, 0], ()) = (0, (1, 2, 2, [0, 0], ()), 0, ()) := by kernel_rfl
  have v2 : smT (1, 2, 2, [0, 0], ()) [1] = ((smT (1, 2, 2, [0, 0], ()) [1]).1, (1, 2, 2, [1056964608, 3204448256], ()), 0, ()) := by kernel_rfl
  have v3 : (smT (1, 2, 2, [0, 0], ()) [2]).2.2.1 = 22 := by decide +kernel
  rw [v1] at h1
  rw [v2] at h2
  unfold F_94
  rw [h1, h2, h3]
  simp only [Option.bind_some, v3]
  rfl
def mildP (f v : Int) : Prop := nan f v = false ∧ inff f v = false ∧ (v % TT f = 0 → v = 0)
theorem mild_p {k : Int} (f : Int) (h : w32 k) : ∃ v, F_99 f k = some v ∧ wf f v ∧ mildP f v := by
  have fb := fmt_bd f
  unfold F_99
  rw [bif_eq]
  by_cases h0 : Int.tmod k 7 = 0
  · rw [if_pos h0]; refine ⟨0, rfl, ⟨by omega, by omega⟩, ?_⟩
    have ib := IN_bd f
    refine ⟨?_, ?_, fun _ => rfl⟩
    · unfold nan; rw [Int.zero_emod]; exact decide_eq_false (by omega)
    · unfold inff; rw [Int.zero_emod]; exact decide_eq_false (by omega)
  rw [if_neg h0, zeror_w, ← widr_nf f]
  have key : ∀ (x : Int), 0 < x → x < IN f → (x % (TT f) = x ∧ (TT f + x) % TT f = x) := by
    intro x h1 h2
    have ib := IN_bd f
    refine ⟨Int.emod_eq_of_lt (by omega) (by omega), ?_⟩
    rw [Int.add_comm, Int.add_emod_right]; exact Int.emod_eq_of_lt (by omega) (by omega)
  have fin : ∀ (x : Int), 0 < x → x < IN f → ∃ v, (bif (bits .and .u32 k 1 == 1) then some (bits .or .u32 x (sgn f true)) else some x) = some v ∧ wf f v ∧ mildP f v := by
    intro x h1 h2
    have ib := IN_bd f
    have kx := key x h1 h2
    cases bits .and .u32 k 1 == 1
    · refine ⟨x, rfl, ⟨by omega, by omega⟩, ?_, ?_, ?_⟩
      · unfold nan; rw [kx.1]; simp; omega
      · unfold inff; rw [kx.1]; simp; omega
      · rw [kx.1]; intro q; exact q
    · have e : bits .or .u32 x (sgn f true) = TT f + x := by
        rw [or_comm32, sgn_or f true ⟨by omega, by omega⟩]; unfold sgn; simp
      refine ⟨TT f + x, by rw [e]; rfl, ⟨by omega, by omega⟩, ?_, ?_, ?_⟩
      · unfold nan; rw [kx.2]; simp; omega
      · unfold inff; rw [kx.2]; simp; omega
      · rw [kx.2]; intro q; omega
  have hd : Int.tmod (k / 8) 4096 = k / 8 % 4096 ∧ Int.tmod (k / 8) 512 = k / 8 % 512 ∧ Int.tmod (k / 8) 33554432 = k / 8 % 33554432 := by
    have : 0 ≤ k / 8 := by have := h.1; omega
    exact ⟨tmod_nn this, tmod_nn this, tmod_nn this⟩
  have hI : IN f = (RR f - 1) * BB f := rfl
  rw [← nf_RR f, ← nf_BB f] at hI
  rcases nf_cases f with e | e | e <;> rw [e] at hI ⊢
  · have hI2 : IN f = 31744 := hI
    have := fin (IntKind.wrap .u32 (13312 + Int.tmod (k / 8) 4096)) (by rw [hd.1, wu32 (by omega)]; omega) (by rw [hd.1, wu32 (by omega)]; omega)
    exact this
  · have hI2 : IN f = 32640 := hI
    have := fin (IntKind.wrap .u32 (16000 + Int.tmod (k / 8) 512)) (by rw [hd.2.1, wu32 (by omega)]; omega) (by rw [hd.2.1, wu32 (by omega)]; omega)
    exact this
  · have hI2 : IN f = 2139095040 := hI
    have := fin (IntKind.wrap .u32 (1048576000 + Int.tmod (k / 8) 33554432)) (by rw [hd.2.2, wu32 (by omega)]; omega) (by rw [hd.2.2, wu32 (by omega)]; omega)
    exact this
theorem num_wf (f : Int) {k : Int} (h : w32 k) : ∃ v, F_9a f k = some v ∧ wf f v := by
  unfold F_9a
  rw [maskr_eq, zeror_w, ← widr_nf f]
  have h15 : (0:Int) ≤ Int.tmod k 15 ∧ Int.tmod k 15 < 15 := by rw [tmod_nn h.1]; omega
  have o : ∀ y, wf f (bits .or .u32 (bits .and .u32 y (2 * TT f - 1)) (sgn f true)) := fun y => by
    have := or_top_bd f y
    unfold sgn; exact this
  rcases nf_cases f with e | e | e <;> rw [e]
  all_goals
    show ∃ v, (bif decide ((0:Int) ≤ Int.tmod k 15 ∧ Int.tmod k 15 < 15) then (bif decide ((0:Nat) + (Int.toNat (Int.tmod k 15)) * 1 < 15) then (bif (k / 2147483648 == 1) then some (bits .or .u32 (bits .and .u32 _ (2 * TT f - 1)) (sgn f true)) else some (bits .and .u32 _ (2 * TT f - 1))) else none) else none) = some v ∧ wf f v
    rw [bif_dec, if_pos h15, bif_dec, if_pos (by omega)]
    cases k / 2147483648 == 1
    · exact ⟨_, rfl, and_mask_bd f _⟩
    · exact ⟨_, rfl, o _⟩
theorem wrap_w (n : Int) : w32 (IntKind.wrap .u32 n) := by rw [wu32_eq]; exact ⟨by omega, by omega⟩
theorem wf_wl {f : Int} {V : List Int} (h : ∀ v ∈ V, wf f v) : wl V := fun a ha => wf_w (h a ha)
theorem wf_right {R C : Nat} {f : Int} {V : List Int} (hR : R ≤ 4096) (hC : C ≤ 4096) (hl : V.length = R * C) (hf : knownS f = true) (h : ∀ v ∈ V, wf f v) : rightS ((R : Int), (C : Int), f, V, ()) = true :=
  right_mk hR hC hl hf (List.all_eq_true.2 fun a ha => decide_eq_true (h a ha).2)
theorem mild2 {k : Int} (h : w32 k) : ∃ v, F_99 2 k = some v ∧ w32 v ∧ (v % 2147483648 = 0 ∨ (1048576000 ≤ v % 2147483648 ∧ v % 2147483648 < 1082130432)) := by
  have k0 := h.1
  have k1 := h.2
  unfold F_99
  rw [bif_eq]
  by_cases h0 : Int.tmod k 7 = 0
  · rw [if_pos h0]; exact ⟨0, rfl, ⟨by decide, by decide⟩, Or.inl rfl⟩
  rw [if_neg h0, zeror_w]
  have hd : Int.tmod (k / 8) 33554432 = k / 8 % 33554432 := tmod_nn (by omega)
  have e : IntKind.wrap .u32 (1048576000 + Int.tmod (k / 8) 33554432) = 1048576000 + k / 8 % 33554432 := by rw [hd, wu32 (by omega)]
  show ∃ v, (bif (bits .and .u32 k 1 == 1) then some (bits .or .u32 (IntKind.wrap .u32 (1048576000 + Int.tmod (k / 8) 33554432)) (sgn 2 true)) else some (IntKind.wrap .u32 (1048576000 + Int.tmod (k / 8) 33554432))) = some v ∧ _
  rw [e]
  cases bits .and .u32 k 1 == 1
  · exact ⟨_, rfl, ⟨by omega, by omega⟩, Or.inr (by omega)⟩
  · refine ⟨2147483648 + (1048576000 + k / 8 % 33554432), ?_, ⟨by omega, by omega⟩, Or.inr (by omega)⟩
    rw [or_comm32, sgn_or 2 true ⟨by omega, by show _ < (2147483648 : Int); omega⟩]; rfl
def mlP (f v : Int) : Prop := mildP f v ∧ (f = 2 → v = 0 ∨ (1048576000 ≤ v % 2147483648 ∧ v % 2147483648 < 1082130432))
theorem mild_q {k : Int} (f : Int) (h : w32 k) : ∃ v, F_99 f k = some v ∧ wf f v ∧ mlP f v := by
  obtain ⟨v, hv, hw, hm⟩ := mild_p f h
  refine ⟨v, hv, hw, hm, fun e => ?_⟩
  subst e
  obtain ⟨u, hu, _, hr⟩ := mild2 h
  rw [hu] at hv
  have := Option.some.inj hv
  subst this
  rcases hr with q | q
  · exact Or.inl (hm.2.2 q)
  · exact Or.inr q
theorem seatTm (R C : Nat) (f : Int) (l : List Int) (m : Bool) (hR : R ≤ 4096) (hC : C ≤ 4096) (hl : l.length < 4611686018427387904) :
    ∃ V, F_95 (R : Int) (C : Int) f l m = some ((R : Int), (C : Int), f, V, ()) ∧ V.length = R * C ∧ (∀ v ∈ V, wf f v) ∧ (m = true → ∀ v ∈ V, mlP f v) := by
  have hb := rc_bd hR hC
  have hRC : ((R : Int) * (C : Int)) = ((R * C : Nat) : Int) := by simp
  obtain ⟨r, hr, V, hr2, lV, wV, mV⟩ := lim_post (st := st_95_0)
    (fun v => ∃ (i : Nat) (V : List Int), v = (((R : Int), ((C : Int), (f, (l, (m, ((i : Int), ())))))), (((0:Int), ((0:Int), ((0:Int), ()))), (((R : Int), ((C : Int), (f, ((i : Nat), ())))), (V, ())))) ∧ i ≤ R * C ∧ V.length = i ∧ (∀ v ∈ V, wf f v) ∧ (m = true → ∀ v ∈ V, mlP f v))
    (fun v => R * C + 1 - v.2.2.1.2.2.2.1)
    (fun r => ∃ (V : List Int), r = ((), (((0:Int), ((0:Int), ((0:Int), ()))), (((R : Int), ((C : Int), (f, ((R * C : Nat), ())))), (V, ())))) ∧ V.length = R * C ∧ (∀ v ∈ V, wf f v) ∧ (m = true → ∀ v ∈ V, mlP f v))
    (fun v hv => by
      obtain ⟨i, V, rfl, h1, h2, h3, h4⟩ := hv
      by_cases hi : i < R * C
      · left
        have h30 : i + 1 ≤ 1073741824 := by omega
        have stp : ∃ v, (∀ R' kn ko, st_95_0 R' (((R : Int), ((C : Int), (f, (l, (m, ((i : Int), ())))))), (((0:Int), ((0:Int), ((0:Int), ()))), (((R : Int), ((C : Int), (f, ((i : Nat), ())))), (V, ())))) kn ko = kn (((R : Int), ((C : Int), (f, (l, (m, (((i + 1 : Nat) : Int), ())))))), (((0:Int), ((0:Int), ((0:Int), ()))), (((R : Int), ((C : Int), (f, ((i + 1 : Nat), ())))), (V ++ [v], ()))))) ∧ wf f v ∧ (m = true → mlP f v) := by
          by_cases hl0 : ((l.length : Nat) : Int) > 0
          · have ht : 0 ≤ Int.tmod (i : Int) ((l.length : Nat) : Int) ∧ Int.tmod (i : Int) ((l.length : Nat) : Int) < ((l.length : Nat) : Int) := by
              rw [tmod_nn (by omega)]; exact ⟨Int.emod_nonneg _ (by omega), Int.emod_lt_of_pos _ hl0⟩
            have hz : (((l.length : Nat) : Int) == 0) = false := beq_false_of_ne (by omega)
            cases m
            · obtain ⟨v, hv, hw⟩ := num_wf f  (k := (IntKind.wrap .u32 ((List.getD l (Int.toNat (Int.tmod (i : Int) ((l.length : Nat) : Int))) (0:Int)) + (IntKind.wrap .u32 ((IntKind.wrap .u32 (IntKind.wrap .i64 (Int.tdiv (i : Int) ((l.length : Nat) : Int)))) * (40503:Int)))))) (wrap_w _)
              refine ⟨v, fun R' kn ko => ?_, hw, fun h => by cases h⟩
              unfold st_95_0
              dsimp only
              simp only [List.take_length, bif_dec, hz, hRC]
              rw [wi64 (n := ((R * C : Nat) : Int)) (by omega), if_pos (show (i : Int) < ((R * C : Nat) : Int) by omega), if_pos hl0, cond_false, if_pos ht, cond_false, cond_false, hv, wi64 (n := (i : Int) + 1) (by omega), show ((i + 1 : Nat) : Int) = (i : Int) + 1 by omega]
              rw [List.take_of_length_le (show V.length ≤ i by omega)]
              simp only [Option.bind_some]
              rw [if_pos h30]
            · obtain ⟨v, hv, hw, hm⟩ := mild_q f  (k := (IntKind.wrap .u32 ((List.getD l (Int.toNat (Int.tmod (i : Int) ((l.length : Nat) : Int))) (0:Int)) + (IntKind.wrap .u32 ((IntKind.wrap .u32 (IntKind.wrap .i64 (Int.tdiv (i : Int) ((l.length : Nat) : Int)))) * (40503:Int)))))) (wrap_w _)
              refine ⟨v, fun R' kn ko => ?_, hw, fun _ => hm⟩
              unfold st_95_0
              dsimp only
              simp only [List.take_length, bif_dec, hz, hRC]
              rw [wi64 (n := ((R * C : Nat) : Int)) (by omega), if_pos (show (i : Int) < ((R * C : Nat) : Int) by omega), if_pos hl0, cond_false, if_pos ht, cond_false, cond_true, hv, wi64 (n := (i : Int) + 1) (by omega), show ((i + 1 : Nat) : Int) = (i : Int) + 1 by omega]
              rw [List.take_of_length_le (show V.length ≤ i by omega)]
              simp only [Option.bind_some]
              rw [if_pos h30]
          · cases m
            · obtain ⟨v, hv, hw⟩ := num_wf f  (k := (IntKind.wrap .u32 ((IntKind.wrap .u32 (i : Int)) * (2654435761:Int)))) (wrap_w _)
              refine ⟨v, fun R' kn ko => ?_, hw, fun h => by cases h⟩
              unfold st_95_0
              dsimp only
              simp only [List.take_length, bif_dec, hRC]
              rw [wi64 (n := ((R * C : Nat) : Int)) (by omega), if_pos (show (i : Int) < ((R * C : Nat) : Int) by omega), if_neg hl0, cond_false, hv, wi64 (n := (i : Int) + 1) (by omega), show ((i + 1 : Nat) : Int) = (i : Int) + 1 by omega]
              rw [List.take_of_length_le (show V.length ≤ i by omega)]
              simp only [Option.bind_some]
              rw [if_pos h30]
            · obtain ⟨v, hv, hw, hm⟩ := mild_q f  (k := (IntKind.wrap .u32 ((IntKind.wrap .u32 (i : Int)) * (2654435761:Int)))) (wrap_w _)
              refine ⟨v, fun R' kn ko => ?_, hw, fun _ => hm⟩
              unfold st_95_0
              dsimp only
              simp only [List.take_length, bif_dec, hRC]
              rw [wi64 (n := ((R * C : Nat) : Int)) (by omega), if_pos (show (i : Int) < ((R * C : Nat) : Int) by omega), if_neg hl0, cond_true, hv, wi64 (n := (i : Int) + 1) (by omega), show ((i + 1 : Nat) : Int) = (i : Int) + 1 by omega]
              rw [List.take_of_length_le (show V.length ≤ i by omega)]
              simp only [Option.bind_some]
              rw [if_pos h30]
        obtain ⟨v, hs, hw, hm⟩ := stp
        refine ⟨_, hs, ⟨i + 1, V ++ [v], rfl, by omega, by simp [h2], ?_, ?_⟩, by simp only; omega⟩
        · intro c hc; rcases List.mem_append.1 hc with q | q
          · exact h3 c q
          · simp at q; rw [q]; exact hw
        · intro hmt c hc; rcases List.mem_append.1 hc with q | q
          · exact h4 hmt c q
          · simp at q; rw [q]; exact hm hmt
      · right
        have e : i = R * C := by omega
        subst e
        refine ⟨_, fun R' kn ko => ?_, ⟨V, rfl, h2, h3, h4⟩⟩
        unfold st_95_0
        dsimp only
        simp only [List.take_length, bif_dec, hRC]
        rw [wi64 (n := ((R * C : Nat) : Int)) (by omega), if_neg (show ¬ ((R * C : Nat) : Int) < ((R * C : Nat) : Int) by omega)])
    (((R : Int), ((C : Int), (f, (l, (m, ((0:Int), ())))))), (((0:Int), ((0:Int), ((0:Int), ()))), (((R : Int), ((C : Int), (f, ((0:Nat), ())))), ([], ()))))
    ⟨0, [], rfl, by omega, rfl, fun c hc => absurd hc (by simp), fun _ c hc => absurd hc (by simp)⟩
  refine ⟨V, ?_, lV, wV, mV⟩
  unfold F_95
  rw [List.take_length, hr, hr2]
  simp only [Option.bind_some, List.drop_zero]
  rw [List.take_of_length_le (by omega)]
end Go.Proofs.Ytfpjkmgfkaoapaa.VI
