import Derived.Test.YtkknnloamidaiaaT23c5b772
namespace Go.Proofs.Ytkknnloamidaiaa.VI
set_option linter.unusedVariables false
set_option linter.unusedSimpArgs false
set_option maxRecDepth 100000
set_option maxHeartbeats 4000000
def turnS (f a : Int) : Int := if sg f a then a % (2 * TT f) - TT f else a % (2 * TT f) + TT f
theorem turn_wf' (f : Int) {a : Int} (h : w32 a) : wf f (turnS f a) := by
  have hb := mod_bd f a
  have hs := sg_iff f a h.1
  have hT := TT_cs f
  unfold turnS
  cases hq : sg f a
  · have : ¬ TT f ≤ a % (2 * TT f) := fun k => by rw [hs.2 k] at hq; cases hq
    simp; exact ⟨by omega, by omega⟩
  · have := hs.1 hq; simp; exact ⟨by omega, by omega⟩
theorem turn_eq2 (f : Int) {a : Int} (h : w32 a) : F_92d f a = some (turnS f a) := turn_eq f h
def subS (f mode a b : Int) : Int × ExcT × Unit :=
  if nan f a || nan f b then (NN f, (loud f a || loud f b, false, false, false, false, ()), ()) else addS f mode a (turnS f b)
theorem sub_eq (f mode : Int) {a b : Int} (ha : w32 a) (hb : w32 b) : F_92f f mode a b = some (subS f mode a b) := by
  unfold F_92f subS
  rw [snans_eq f [a, b] (by simp) (by simpa using ⟨ha, hb⟩), turn_eq2 f hb]
  simp only [Option.bind_some, List.any_cons, List.any_nil, Bool.or_false]
  rw [add_eq f mode ha (wf_w (turn_wf' f hb))]
  cases nan f a <;> cases nan f b <;> rfl
theorem sub_wf (f mode a b : Int) : wf f (subS f mode a b).1 := by
  unfold subS; split
  · exact NN_wf f
  · exact add_wf _ _ _ _
def fintS (f mode v : Int) : Int × ExcT × Unit := pk f mode (decide (v < 0)) 0 (if v < 0 then -v else v) false
theorem fint_eq (f mode : Int) {v : Int} (h : -9223372036854775808 ≤ v ∧ v ≤ 9223372036854775807) : F_938 f mode v = some (fintS f mode v) := by
  unfold F_938 F_94d fintS
  have e : (bif decide (v < 0) then some (IntKind.u64.wrap (0 - IntKind.u64.wrap v)) else some (IntKind.u64.wrap v)) = some (if v < 0 then -v else v) := by
    rw [bif_dec]
    by_cases k : v < 0
    · rw [if_pos k, if_pos k, wu64_eq, wu64_eq]; congr 1; omega
    · rw [if_neg k, if_neg k, wu64 (by omega)]
  rw [e]
  simp only [Option.bind_some]
  rw [pack_eq f mode _ _ (show w64 (if v < 0 then -v else v) from ⟨by split <;> omega, by split <;> omega⟩)]
  rfl
def scaleS (f mode a n : Int) : Int × ExcT × Unit :=
  if nan f a then (NN f, (loud f a, false, false, false, false, ()), ())
  else if inff f a || zr f a then (a % (2 * TT f), EXC0, ())
  else pk f mode (sg f a) (xp f a + min (max n (-5000)) 5000) (sig f a) false
theorem scale_eq (f mode : Int) {a : Int} (n : Int) (ha : w32 a) : F_93a f mode a n = some (scaleS f mode a n) := by
  have xa := xp_bd f a
  unfold F_93a F_94e scaleS
  rw [snans_eq f [a] (by simp) (by simpa using ha), mask_eq, isinf_eq f ha, iszero_eq f ha, of_eq f ha]
  simp only [Option.bind_some, List.any_cons, List.any_nil, Bool.or_false, mn_eq, mx_eq, and_TT f ha.1 ha.2]
  rw [wi64 (by omega), pack_eq f mode _ _ (sig_w64 f a), show min (max (xp f a + min (max n (-5000)) 5000) (-10000)) 10000 = xp f a + min (max n (-5000)) 5000 by omega]
  rcases cls f a with ⟨a1, a3, a4⟩ | ⟨a1, a2, a3, a4⟩ | ⟨a1, a2, a3, a4⟩ | ⟨a1, a2, a3, a4⟩ <;> simp only [a1, a3, a4] <;> rfl
def unitsW (mode : Int) (n : Bool) (e N : Int) : Int × Bool :=
  if e + ln N > 40 then (1099511627776, false)
  else (fin1 mode n (qS N (-e)) (halfS N (-e)) (restS N (-e) false), halfS N (-e) || restS N (-e) false)
theorem toq_bd {e N : Int} (hN : 0 ≤ N) (h : ¬ e + ln N > 40) : 0 ≤ qS N (-e) ∧ qS N (-e) ≤ 1099511627776 := by
  unfold qS
  by_cases h0 : N = 0
  · subst h0; split <;> simp
  have hp : 0 < N := by omega
  rw [ln_pos hp] at h
  have hlt := lg_lt hp
  split
  · have c := p2_pos (- -e).toNat
    refine ⟨Int.mul_nonneg hN (by omega), ?_⟩
    have : N * 2 ^ (- -e).toNat < 2 ^ (lg N + 1) * 2 ^ (- -e).toNat := Int.mul_lt_mul_of_pos_right hlt c
    rw [← p2_add] at this
    have := p2_le (show lg N + 1 + (- -e).toNat ≤ 40 by omega)
    rw [show (2 : Int) ^ 40 = 1099511627776 from rfl] at this
    omega
  · have c := p2_pos (-e).toNat
    refine ⟨Int.ediv_nonneg hN (by omega), ?_⟩
    have : N / 2 ^ (-e).toNat < 2 ^ 40 := by
      rw [Int.ediv_lt_iff_lt_mul c, ← p2_add]
      have := p2_le (show lg N + 1 ≤ 40 + (-e).toNat by omega)
      omega
    rw [show (2 : Int) ^ 40 = 1099511627776 from rfl] at this
    omega
def tointS (f mode a : Int) : Int × ExcT × Unit :=
  if nan f a || inff f a then (-2147483648, (true, false, false, false, false, ()), ())
  else if (if sg f a then -(unitsW mode (sg f a) (xp f a) (sig f a)).1 else (unitsW mode (sg f a) (xp f a) (sig f a)).1) = IntKind.wrap .i32 (if sg f a then -(unitsW mode (sg f a) (xp f a) (sig f a)).1 else (unitsW mode (sg f a) (xp f a) (sig f a)).1)
    then (IntKind.wrap .i32 (if sg f a then -(unitsW mode (sg f a) (xp f a) (sig f a)).1 else (unitsW mode (sg f a) (xp f a) (sig f a)).1), (false, false, false, false, (unitsW mode (sg f a) (xp f a) (sig f a)).2, ()), ())
  else (-2147483648, (true, false, false, false, false, ()), ())
theorem wunits_eq (mode : Int) (n : Bool) {e N : Int} (hN : w64 N) (he : -1000 ≤ e ∧ e ≤ 1000) : F_936 (n, e, N, false, ()) mode = some ((unitsW mode n e N).1, (unitsW mode n e N).2, ()) ∧ 0 ≤ (unitsW mode n e N).1 ∧ (unitsW mode n e N).1 ≤ 1099511627777 := by
  have hl := ln_bd (k := 64) hN.1 (by have : (2 : Int) ^ 64 = 18446744073709551616 := rfl; have := hN.2; omega)
  unfold F_936 unitsW
  dsimp only
  rw [len_eq hN]
  simp only [Option.bind_some, bif_dec]
  rw [wi64 (n := e + ln N) (by omega), wi64 (n := 0 - e) (by omega)]
  by_cases h : e + ln N > 40
  · rw [if_pos h, if_pos h]; exact ⟨rfl, by decide, by decide⟩
  · rw [if_neg h, if_neg h]
    have qb := toq_bd hN.1 h
    rw [show (0 : Int) - e = -e by omega, units_eq hN (by omega) (by omega) false]
    simp only [Option.bind_some]
    rw [up_eq mode n ⟨qb.1, by omega⟩ (halfS N (-e)) (restS N (-e) false) (leftS (halfS N (-e)) (restS N (-e) false)) rfl]
    simp only [Option.bind_some]
    rw [wu64 (n := qS N (-e) + 1) (by omega)]
    unfold fin1
    generalize upS mode n (decide (qS N (-e) % 2 = 1)) (halfS N (-e)) (restS N (-e) false) = b
    refine ⟨?_, ?_, ?_⟩
    · cases b <;> cases halfS N (-e) <;> cases restS N (-e) false <;> rfl
    · cases b <;> simp <;> omega
    · cases b <;> simp <;> omega
theorem toint_eq (f mode : Int) {a : Int} (ha : w32 a) : F_917 f mode a = some (tointS f mode a) := by
  have xa := xp_bd f a
  have hw := wunits_eq mode (sg f a) (sig_w64 f a) (show -1000 ≤ xp f a ∧ xp f a ≤ 1000 by omega)
  have hf := ex_fin f a
  have ft : F_934 f a = some (!(nan f a || inff f a)) := by
    unfold F_934
    rw [parts_eq f ha.1 ha.2, top_eq]
    simp only [Option.bind_some]
    congr 1
    rw [Bool.eq_iff_iff]
    simp only [decide_eq_true_eq, Bool.not_eq_true', Bool.or_eq_false_iff]
    rw [hf]
    unfold nan inff
    simp only [decide_eq_false_iff_not]
    omega
  unfold F_917 tointS
  rw [ft, of_eq f ha]
  simp only [Option.bind_some]
  rw [hw.1]
  simp only [Option.bind_some]
  obtain ⟨h1, h2⟩ := hw.2
  generalize (unitsW mode (sg f a) (xp f a) (sig f a)).1 = q at *
  generalize (unitsW mode (sg f a) (xp f a) (sig f a)).2 = b at *
  rw [wi64 (n := q) (by omega), wi64 (n := 0 - q) (by omega)]
  have hx : (bif sg f a then 0 - q else q) = (if sg f a then -q else q) := by cases sg f a <;> simp
  rw [hx]
  have hb : -1099511627777 ≤ (if sg f a then -q else q) ∧ (if sg f a then -q else q) ≤ 1099511627777 := by split <;> omega
  generalize (if sg f a then -q else q) = r at *
  have hw32 : IntKind.i64.wrap (IntKind.i32.wrap r) = IntKind.i32.wrap r := by
    apply wi64
    simp only [IntKind.wrap, IntKind.bits, IntKind.signed]; simp
    split <;> omega
  rw [hw32, bif_eq]
  cases nan f a <;> cases inff f a <;> simp only [Bool.or_true, Bool.or_false, Bool.not_true, Bool.not_false, cond_true, cond_false, if_true, if_false, Bool.false_eq_true] <;> (try rfl)
  by_cases k : r = IntKind.i32.wrap r
  · rw [if_pos k, if_pos k]
  · rw [if_neg k, if_neg k]
noncomputable def O_91 : Orc := (orm c_92 (orm c_97 (orm c_98 (orm c_94 (orm c_99 (orm c_9a c_9b))))))
theorem okO_91 : OrcOk PR O_91 := (orm_ok ok_92 (orm_ok ok_97 (orm_ok ok_98 (orm_ok ok_94 (orm_ok ok_99 (orm_ok ok_9a ok_9b))))))
abbrev fa_91 : Fm := (.pair (.i .u32) .unit)
abbrev ha_91 : List BF := []
abbrev fr_91 : Fm := .b
abbrev hr_91 : List BF := []
noncomputable def L_91 : Lps := L0
def inn_91 : T fr_91 → TH hr_91 → Bool := (fun z w => z)
def out_91 : Bool → T fr_91 × TH hr_91 := fun r => (r, ())
noncomputable def F_91 (a0 : Int) : Option (Bool) :=
 (F_92).bind fun r0 =>
 bif (!r0) then
 (some false)
 else
 ((F_97 (2:Int) a0)).bind fun r1 =>
 let x2 : Int := (bits .andNot .u32 r1 (2147483648:Int))
 bif (x2 == (0:Int)) then
 ((F_98 x2)).bind fun r3 =>
 (some (r3 == (4286578688:Int)))
 else
 ((F_98 x2)).bind fun r4 =>
 ((F_94 r4)).bind fun r5 =>
 ((F_99 (2:Int) r5)).bind fun r6 =>
 ((F_99 (2:Int) x2)).bind fun r7 =>
 bif (decide ((IntKind.wrap .i64 (r6 - r7)) > (-(64:Int)))) then
 bif (decide ((IntKind.wrap .i64 (r6 - r7)) < (64:Int))) then
 ((F_9a (2:Int) r4)).bind fun r8 =>
 bif r8 then
 ((F_9b (2:Int) x2 (1065353216:Int))).bind fun r9 =>
 ((F_9b (2:Int) r4 (0:Int))).bind fun r10 =>
 (some (r9 == r10))
 else
 (some false)
 else
 (some false)
 else
 (some false)
noncomputable def G_91 : T fa_91 → TH ha_91 → Option (Bool) := fun x y => F_91 x.1
noncomputable def c_91 : Orc := ent i_91 [] 0 (sp fa_91 ha_91 fr_91 hr_91 G_91 out_91)
theorem ok_91 : OrcOk PR c_91 := fnT okO_91 mixed p_91 (by kernel_rfl) (by kernel_rfl) (L := L_91) (kp := false) (by kernel_rfl) (inn := inn_91) (out := out_91) (fun _ _ => rfl) (loopsL (l := []) (by kernel_rfl) trivial) (fun x y => by kernel_rfl)
set_option maxHeartbeats 8000000
def divS (f mode a b : Int) : Int × ExcT × Unit :=
  if nan f a || nan f b then (NN f, (loud f a || loud f b, false, false, false, false, ()), ())
  else if (zr f a && zr f b) || (inff f a && inff f b) then (NN f, (true, false, false, false, false, ()), ())
  else if inff f a then (sgn f (!(sg f a == sg f b)) + IN f, EXC0, ())
  else if inff f b || zr f a then (sgn f (!(sg f a == sg f b)), EXC0, ())
  else if zr f b then (sgn f (!(sg f a == sg f b)) + IN f, (false, true, false, false, false, ()), ())
  else pk f mode (!(sg f a == sg f b)) (xp f a - (61 - lg (sig f a)) - xp f b) (sig f a * 2 ^ (61 - lg (sig f a)) / sig f b) (decide (sig f a * 2 ^ (61 - lg (sig f a)) % sig f b ≠ 0))
theorem div_eq (f mode : Int) {a b : Int} (ha : w32 a) (hb : w32 b) : F_930 f mode a b = some (divS f mode a b) := by
  have xa := xp_bd f a
  have xb := xp_bd f b
  have sa := sig_bd f a
  have sb := sig_bd f b
  have fb := fmt_bd f
  have c61 : (2 : Int) ^ 62 = 4611686018427387904 := rfl
  have ka := kl_le f a
  have kb := kl_le f b
  have na : nan f a = decide (kl f a ≥ 4) := by unfold nan; exact decide_eq_decide.2 (kl_nan f a).symm
  have nb : nan f b = decide (kl f b ≥ 4) := by unfold nan; exact decide_eq_decide.2 (kl_nan f b).symm
  have za : zr f a = decide (kl f a = 0) := by unfold zr; exact decide_eq_decide.2 (kl_zero f a).symm
  have zb : zr f b = decide (kl f b = 0) := by unfold zr; exact decide_eq_decide.2 (kl_zero f b).symm
  have ia : inff f a = decide (kl f a = 3) := by unfold inff; exact decide_eq_decide.2 (kl_inf f a).symm
  have ib : inff f b = decide (kl f b = 3) := by unfold inff; exact decide_eq_decide.2 (kl_inf f b).symm
  have road : sig f a ≠ 0 → sig f b ≠ 0 →
      ((F_935 f a).bind fun r26 =>
        (F_935 f b).bind fun r28 =>
        (F_922 r26.2.2.1).bind fun r31 =>
        (F_944 r26.2.2.1 (IntKind.wrap .i64 ((0:Int) - (IntKind.wrap .i64 ((62:Int) - r31))))).bind fun r33 =>
        bif (r28.2.2.1 == (0:Int)) then none else
        bif (r28.2.2.1 == (0:Int)) then none else
        (F_945 f mode (!(sg f a == sg f b)) (IntKind.wrap .i64 ((IntKind.wrap .i64 (r26.2.1 - (IntKind.wrap .i64 ((62:Int) - r31)))) - r28.2.1)) (IntKind.wrap .u64 (Int.tdiv r33.1 r28.2.2.1)) ((Int.tmod r33.1 r28.2.2.1) != (0:Int))).bind fun r34 =>
        (some r34)) = some (pk f mode (!(sg f a == sg f b)) (xp f a - (61 - lg (sig f a)) - xp f b) (sig f a * 2 ^ (61 - lg (sig f a)) / sig f b) (decide (sig f a * 2 ^ (61 - lg (sig f a)) % sig f b ≠ 0))) := by
    intro h1 h2
    have hp : 0 < sig f a := by omega
    have hq : 0 < sig f b := by omega
    have hl := lg_bd (k := 62) hp (by omega)
    have hlt := lg_lt hp
    have hle := lg_le hp
    have hb2 : sig f a * 2 ^ (61 - lg (sig f a)) < 2 ^ 62 := by
      have := Int.mul_lt_mul_of_pos_right hlt (p2_pos (61 - lg (sig f a)))
      rw [← p2_add, show lg (sig f a) + 1 + (61 - lg (sig f a)) = 62 by omega] at this
      exact this
    have hb0 : 0 ≤ sig f a * 2 ^ (61 - lg (sig f a)) := Int.mul_nonneg sa.1 (by have := p2_pos (61 - lg (sig f a)); omega)
    rw [of_eq f ha, of_eq f hb]
    simp only [Option.bind_some]
    rw [len_eq (sig_w64 f a), ln_pos hp]
    simp only [Option.bind_some]
    rw [wi64 (n := 62 - ((lg (sig f a) : Int) + 1)) (by omega), wi64 (n := 0 - (62 - ((lg (sig f a) : Int) + 1))) (by omega)]
    have hs : F_944 (sig f a) (0 - (62 - ((lg (sig f a) : Int) + 1))) = some (sig f a * 2 ^ (61 - lg (sig f a)), false, ()) := by
      by_cases h0 : lg (sig f a) = 61
      · rw [h0, show 0 - (62 - (((61 : Nat) : Int) + 1)) = 0 by omega, shr_eq (sig_w64 f a) (by omega)]; simp
      · have := shl_eq (sig_w64 f a) (n := 61 - (lg (sig f a) : Int)) (by omega) (by
          rw [show (61 - (lg (sig f a) : Int)).toNat = 61 - lg (sig f a) by omega]; omega)
        rw [show 0 - (62 - ((lg (sig f a) : Int) + 1)) = -(61 - (lg (sig f a) : Int)) by omega, this]
        rw [show (61 - (lg (sig f a) : Int)).toNat = 61 - lg (sig f a) by omega]
    rw [hs]
    simp only [Option.bind_some]
    have hz : (sig f b == 0) = false := beq_false_of_ne h2
    rw [hz]
    simp only [cond_false]
    rw [tdiv_nn hb0, tmod_nn hb0]
    have hd0 : 0 ≤ sig f a * 2 ^ (61 - lg (sig f a)) / sig f b := Int.ediv_nonneg hb0 (by omega)
    have hd1 : sig f a * 2 ^ (61 - lg (sig f a)) / sig f b ≤ sig f a * 2 ^ (61 - lg (sig f a)) := Int.ediv_le_self _ hb0
    rw [wu64 (n := sig f a * 2 ^ (61 - lg (sig f a)) / sig f b) (by omega), wi64 (n := xp f a - (62 - ((lg (sig f a) : Int) + 1))) (by omega), wi64 (by omega)]
    rw [pack_eq f mode _ _ (show w64 (sig f a * 2 ^ (61 - lg (sig f a)) / sig f b) from ⟨hd0, by omega⟩)]
    simp only [Option.bind_some]
    rw [show min (max (xp f a - (62 - ((lg (sig f a) : Int) + 1)) - xp f b) (-10000)) 10000 = xp f a - (61 - lg (sig f a)) - xp f b by omega]
    have : (sig f a * 2 ^ (61 - lg (sig f a)) % sig f b != 0) = decide (sig f a * 2 ^ (61 - lg (sig f a)) % sig f b ≠ 0) := by rw [Bool.eq_iff_iff]; simp
    rw [this]
  unfold F_930 F_942 divS
  rw [snans_eq f [a, b] (by simp) (by simpa using ⟨ha, hb⟩), neg_eq f ha, neg_eq f hb, class_eq f ha.1 ha.2, class_eq f hb.1 hb.2, nan_w]
  simp only [Option.bind_some, List.any_cons, List.any_nil, Bool.or_false, inf_eq, zero_eq]
  have hsa : nan f a = false → inff f a = false → zr f a = false → sig f a ≠ 0 := fun h1 h2 h3 k => by rw [(sig_zero f a h1 h2).1 k] at h3; cases h3
  have hsb : nan f b = false → inff f b = false → zr f b = false → sig f b ≠ 0 := fun h1 h2 h3 k => by rw [(sig_zero f b h1 h2).1 k] at h3; cases h3
  rw [na, nb] at *
  rw [za, zb, ia, ib] at *
  generalize pk f mode _ _ _ _ = W at *
  generalize loud f a = la at *
  generalize loud f b = lb at *
  rcases (show kl f a = 0 ∨ kl f a = 1 ∨ kl f a = 2 ∨ kl f a = 3 ∨ kl f a ≥ 4 by omega) with p | p | p | p | p <;>
  rcases (show kl f b = 0 ∨ kl f b = 1 ∨ kl f b = 2 ∨ kl f b = 3 ∨ kl f b ≥ 4 by omega) with q | q | q | q | q
  all_goals (first | (have p' : decide (kl f a ≥ 4) = true := decide_eq_true p) | (have p' : decide (kl f a ≥ 4) = false := decide_eq_false (by omega)))
  all_goals (first | (have q' : decide (kl f b ≥ 4) = true := decide_eq_true q) | (have q' : decide (kl f b ≥ 4) = false := decide_eq_false (by omega)))
  all_goals rw [p', q']
  all_goals (try (have r1 := road (hsa (by rw [p']) (by rw [p]; rfl) (by rw [p]; rfl)) (hsb (by rw [q']) (by rw [q]; rfl) (by rw [q]; rfl))))
  all_goals clear road hsa hsb na nb za zb ia ib ka kb xa xb
  all_goals (first
    | (rw [Bool.true_or]; rfl)
    | (rw [Bool.or_true]; rfl)
    | (rw [p, q]; rfl)
    | (rw [p, q]; exact r1)
    | skip)
theorem fabove_eq {a b : Int} (ha : w32 a) (hb : w32 b) : F_912 a b = some (lt 2 b a) := by
  unfold F_912; rw [less_eq 2 hb ha]; rfl
theorem fisnan_eq {a : Int} (ha : w32 a) : F_9d a = some (nan 2 a) := by
  unfold F_9d; rw [isnan_eq 2 ha]; rfl
def mulf (a b : Int) : Int := (mulS 2 0 a b).1
def subf (a b : Int) : Int := (subS 2 0 a b).1
def divf (a b : Int) : Int := (divS 2 0 a b).1
def intf (n : Int) : Int := (fintS 2 0 n).1
def scalef (a n : Int) : Int := (scaleS 2 0 a n).1
def wholef (a : Int) : Int := (tointS 2 0 a).1
theorem mulf_w (a b : Int) : w32 (mulf a b) := wf_w (mul_wf 2 0 a b)
theorem subf_w (a b : Int) : w32 (subf a b) := wf_w (sub_wf 2 0 a b)
theorem div_wf (f mode a b : Int) : wf f (divS f mode a b).1 := by
  unfold divS
  split
  · exact NN_wf f
  split
  · exact NN_wf f
  split
  · exact infs_wf f _
  split
  · have := sgn_wf f (!(sg f a == sg f b)) (x := 0) ⟨Int.le_refl _, by have := TT_cs f; omega⟩
    rw [Int.add_zero] at this
    exact this
  split
  · exact infs_wf f _
  · exact pk_wf _ _ _ _ _ _ (Int.ediv_nonneg (Int.mul_nonneg (sig_bd f a).1 (by have := p2_pos (61 - lg (sig f a)); omega)) (sig_bd f b).1)
theorem divf_w (a b : Int) : w32 (divf a b) := wf_w (div_wf 2 0 a b)
theorem fint_wf (f mode v : Int) : wf f (fintS f mode v).1 := pk_wf _ _ _ _ _ _ (by split <;> omega)
theorem intf_w (n : Int) : w32 (intf n) := wf_w (fint_wf 2 0 n)
theorem scale_wf (f mode a n : Int) : wf f (scaleS f mode a n).1 := by
  unfold scaleS
  split
  · exact NN_wf f
  split
  · have := mod_bd f a; exact ⟨this.1, this.2.1⟩
  · exact pk_wf _ _ _ _ _ _ (sig_bd f a).1
theorem scalef_w (a n : Int) : w32 (scalef a n) := wf_w (scale_wf 2 0 a n)
theorem turn2_w {a : Int} (h : w32 a) : w32 (turnS 2 a) := wf_w (turn_wf' 2 h)
theorem wholef_bd (a : Int) : -2147483648 ≤ wholef a ∧ wholef a ≤ 2147483647 := by
  have wr : ∀ z : Int, -2147483648 ≤ IntKind.wrap .i32 z ∧ IntKind.wrap .i32 z ≤ 2147483647 := fun z => by
    simp only [IntKind.wrap, IntKind.bits, IntKind.signed]; simp
    split <;> omega
  unfold wholef tointS
  generalize (if sg 2 a = true then -(unitsW 0 (sg 2 a) (xp 2 a) (sig 2 a)).1 else (unitsW 0 (sg 2 a) (xp 2 a) (sig 2 a)).1) = z
  by_cases h1 : (nan 2 a || inff 2 a) = true
  · rw [if_pos h1]; exact ⟨by decide, by decide⟩
  rw [if_neg h1]
  by_cases h2 : z = IntKind.wrap .i32 z
  · rw [if_pos h2]; exact wr z
  · rw [if_neg h2]; exact ⟨by decide, by decide⟩
theorem fmul_eq {a b : Int} (ha : w32 a) (hb : w32 b) : F_918 a b = some (mulf a b) := by
  unfold F_918; rw [mul_eq 2 0 ha hb]; rfl
theorem fsub_eq {a b : Int} (ha : w32 a) (hb : w32 b) : F_913 a b = some (subf a b) := by
  unfold F_913; rw [sub_eq 2 0 ha hb]; rfl
theorem fdiv_eq {a b : Int} (ha : w32 a) (hb : w32 b) : F_914 a b = some (divf a b) := by
  unfold F_914; rw [div_eq 2 0 ha hb]; rfl
theorem fsint_eq {n : Int} (h : -9223372036854775808 ≤ n ∧ n ≤ 9223372036854775807) : F_919 n = some (intf n) := by
  unfold F_919; rw [fint_eq 2 0 h]; rfl
theorem fscale_eq {a : Int} (n : Int) (ha : w32 a) : F_91c a n = some (scalef a n) := by
  unfold F_91c; rw [scale_eq 2 0 n ha]; rfl
theorem fwhole_eq {a : Int} (ha : w32 a) : F_917 2 0 a = some (tointS 2 0 a) := toint_eq 2 0 ha
theorem xminus {a : Int} (h : w32 a) : bits .xor .u32 (bits .and .u32 a 4294967295) 2147483648 = turnS 2 a := by
  have e : F_92d 2 a = some (bits .xor .u32 (bits .and .u32 a 4294967295) 2147483648) := by
    unfold F_92d F_93b F_93f
    rfl
  rw [turn_eq2 2 h] at e
  exact (Option.some.inj e).symm
theorem sg2 {a : Int} (h : w32 a) : (bits .and .u32 (a / 2147483648) 1 == (1 : Int)) = sg 2 a := by
  have e := and_mask32 (a / 2147483648) 1 (by have := h.1; omega) (by have := h.2; omega) (by decide)
  rw [show (2 : Int) ^ 1 - 1 = 1 from rfl] at e
  rw [e, Bool.eq_iff_iff, sg_iff 2 a h.1]
  have : TT 2 = 2147483648 := rfl
  have h1 := h.1
  have h2 := h.2
  rw [this]
  simp
  omega
def polyS (x p : Int) (l : List Int) : Int := l.foldl (fun p c => fma p x c) p
theorem polyS_w {x p : Int} (hp : w32 p) : ∀ l : List Int, w32 (polyS x p l)
  | [] => hp
  | c :: l => polyS_w (fma_w p x c) l
theorem take_foldl {x p : Int} (l : List Int) {i : Nat} (h : i < l.length) : polyS x p (l.take (i + 1)) = fma (polyS x p (l.take i)) x (l.getD i 0) := by
  have e : l.take (i + 1) = l.take i ++ [l.getD i 0] := by
    rw [List.take_add_one, List.getElem?_eq_getElem h, List.getD_eq_getElem?_getD, List.getElem?_eq_getElem h]; rfl
  rw [e]; unfold polyS; rw [List.foldl_append]; rfl
theorem poly_eq {x p : Int} (hx : w32 x) (hp : w32 p) (l : List Int) (hl : ∀ c ∈ l, w32 c) (hn : l.length ≤ 100) : F_91b x p l = some (polyS x p l) := by
  have key := lim_seq (st := st_91b_0) (fun i => ((x, (polyS x p (l.take i), (l, ((l.length : Int), ((i : Int), ()))))), ())) (b := ((polyS x p (l.take l.length), ()), ())) l.length
    (fun i hi R kn ko => by
      unfold st_91b_0
      dsimp only
      simp only [List.take_length, bif_dec, Int.toNat_natCast]
      rw [if_pos (by omega), if_pos (by omega), ffma_eq (polyS_w hp _) hx (by
        rw [List.getD_eq_getElem?_getD, List.getElem?_eq_getElem hi]; exact hl _ (List.getElem_mem hi)), take_foldl l hi]
      simp only [Option.bind_some]
      rw [wi64 (n := (i : Int) + 1) (by omega), show ((i + 1 : Nat) : Int) = (i : Int) + 1 by omega])
    (fun R kn ko => by
      unfold st_91b_0
      dsimp only
      simp only [List.take_length, bif_dec]
      rw [if_neg (by omega)])
  unfold F_91b
  rw [List.take_length]
  rw [show polyS x p (l.take 0) = p from rfl] at key
  rw [List.take_length] at key
  exact (congrArg (fun o => Option.bind o fun r0 => some r0.1.1) key)
def expR (x : Int) : Int := fma (turnS 2 (intf (wholef (mulf x 1069066811)))) 901758606 (fma (turnS 2 (intf (wholef (mulf x 1069066811)))) 1060205056 x)
def expM (x : Int) : Int := scalef (polyS (expR x) 985008993 [1007192201, 1026206379, 1042983595, 1056964608, 1065353216, 1065353216]) (wholef (mulf x 1069066811))
def expS (x : Int) : Int := if nan 2 x then 2143289344 else if lt 2 1118925336 x then 2139095040 else if lt 2 x 3268407733 then 0 else expM x
theorem wlit {a : Int} (h : (decide (0 ≤ a) && decide (a ≤ 4294967295)) = true) : w32 a := by
  simp at h; exact ⟨h.1, by omega⟩
theorem exp_eq {x : Int} (h : w32 x) : F_94 x = some (expS x) := by
  have bw := wholef_bd (mulf x 1069066811)
  unfold F_94 expS
  rw [fisnan_eq h, fabove_eq h (wlit rfl), fabove_eq (wlit rfl) h, fmul_eq h (wlit rfl)]
  simp only [Option.bind_some]
  rw [fwhole_eq (mulf_w _ _)]
  simp only [Option.bind_some]
  rw [show (tointS 2 0 (mulf x 1069066811)).1 = wholef (mulf x 1069066811) from rfl, wi64 (by omega), fsint_eq (by omega)]
  simp only [Option.bind_some]
  rw [xminus (intf_w _), ffma_eq (turn2_w (intf_w _)) (wlit rfl) h]
  simp only [Option.bind_some]
  rw [ffma_eq (turn2_w (intf_w _)) (wlit rfl) (fma_w _ _ _)]
  simp only [Option.bind_some]
  rw [poly_eq (fma_w _ _ _) (wlit rfl) _ (by decide) (by decide)]
  simp only [Option.bind_some]
  rw [fscale_eq _ (polyS_w (wlit rfl) _)]
  cases nan 2 x <;> cases lt 2 1118925336 x <;> cases lt 2 x 3268407733 <;> rfl
theorem exp_w {x : Int} : w32 (expS x) := by
  unfold expS
  split
  · exact wlit rfl
  split
  · exact wlit rfl
  split
  · exact wlit rfl
  · exact scalef_w _ _
def logT (m : Int) : Int := divf (subf m 1065353216) (addf 1073741824 (subf m 1065353216))
def logY (s : Int) : Int := fma s (mulf (polyS (mulf s s) 1046711865 [1049774373, 1053609165, 1059760811]) (mulf s s)) (addf s s)
def logK (e m : Int) : Int := fma (intf e) 1060205056 (fma (intf e) 901758606 (logY (logT m)))
def logE (x : Int) : Int := xp 2 x + ln (sig 2 x) - 1
def logM (x : Int) : Int := if lt 2 1068827891 (scalef x (-logE x)) then logK (logE x + 1) (scalef (scalef x (-logE x)) (-1)) else logK (logE x) (scalef x (-logE x))
def logS (x : Int) : Int := if nan 2 x then 2143289344 else if zr 2 x then 4286578688 else if sg 2 x then 2143289344 else if inff 2 x then x else logM x
theorem log_eq {x : Int} (h : w32 x) : F_98 x = some (logS x) := by
  have xa := xp_bd 2 x
  have hl := ln_bd (k := 64) (sig_bd 2 x).1 (by have := sig_bd 2 x; have : (2 : Int) ^ 64 = 18446744073709551616 := rfl; have := (sig_w64 2 x).2; omega)
  have hr : ∀ e m : Int, w32 m → -10000 ≤ e ∧ e ≤ 10000 →
      ((F_913 m (1065353216:Int)).bind fun r22 =>
            (F_915 (1073741824:Int) r22).bind fun r23 =>
            (F_914 r22 r23).bind fun r24 =>
            (F_918 r24 r24).bind fun r25 =>
            (F_91b r25 (1046711865:Int) [(1049774373:Int), (1053609165:Int), (1059760811:Int)]).bind fun r26 =>
            (F_918 r26 r25).bind fun r27 =>
            (F_915 r24 r24).bind fun r28 =>
            (F_91a r24 r27 r28).bind fun r29 =>
            (F_919 e).bind fun r30 =>
            (F_91a r30 (901758606:Int) r29).bind fun r31 =>
            (F_91a r30 (1060205056:Int) r31).bind fun r32 =>
            (some r32)) = some (logK e m) := by
    intro e m hm he
    rw [fsub_eq hm (wlit rfl)]
    simp only [Option.bind_some]
    rw [fadd_eq (wlit rfl) (subf_w _ _)]
    simp only [Option.bind_some]
    rw [fdiv_eq (subf_w _ _) (addf_w _ _)]
    simp only [Option.bind_some]
    rw [fmul_eq (divf_w _ _) (divf_w _ _)]
    simp only [Option.bind_some]
    rw [poly_eq (mulf_w _ _) (wlit rfl) _ (by decide) (by decide)]
    simp only [Option.bind_some]
    rw [fmul_eq (polyS_w (wlit rfl) _) (mulf_w _ _), fadd_eq (divf_w _ _) (divf_w _ _)]
    simp only [Option.bind_some]
    rw [ffma_eq (divf_w _ _) (mulf_w _ _) (addf_w _ _), fsint_eq (by omega)]
    simp only [Option.bind_some]
    rw [ffma_eq (intf_w _) (wlit rfl) (fma_w _ _ _)]
    simp only [Option.bind_some]
    rw [ffma_eq (intf_w _) (wlit rfl) (fma_w _ _ _)]
    rfl
  unfold F_98 logS
  rw [fisnan_eq h, iszero_eq 2 h, isinf_eq 2 h, unpack_eq 2 h, sg2 h]
  simp only [Option.bind_some]
  rw [len_eq (sig_w64 2 x)]
  simp only [Option.bind_some]
  rw [wi64 (n := xp 2 x + ln (sig 2 x)) (by omega), wi64 (n := xp 2 x + ln (sig 2 x) - 1) (by omega), wi64 (n := 0 - (xp 2 x + ln (sig 2 x) - 1)) (by omega), wi64 (n := xp 2 x + ln (sig 2 x) - 1 + 1) (by omega), fscale_eq _ h]
  simp only [Option.bind_some]
  rw [fabove_eq (scalef_w _ _) (wlit rfl), fscale_eq _ (scalef_w _ _)]
  simp only [Option.bind_some]
  have h1 := hr (xp 2 x + ln (sig 2 x) - 1 + 1) (scalef (scalef x (0 - (xp 2 x + ln (sig 2 x) - 1))) (-1)) (scalef_w _ _) (by omega)
  have h2 := hr (xp 2 x + ln (sig 2 x) - 1) (scalef x (0 - (xp 2 x + ln (sig 2 x) - 1))) (scalef_w _ _) (by omega)
  rw [h1, h2]
  unfold logM logE
  rw [show (0 : Int) - (xp 2 x + ln (sig 2 x) - 1) = -(xp 2 x + ln (sig 2 x) - 1) by omega]
  cases nan 2 x <;> cases zr 2 x <;> cases sg 2 x <;> cases inff 2 x <;> cases lt 2 1068827891 (scalef x (-(xp 2 x + ln (sig 2 x) - 1))) <;> rfl
def tanT (a : Int) : Int := subf 1065353216 (divf 1073741824 (addf (expS (addf a a)) 1065353216))
def tanA (a : Int) : Int := if lt 2 1091579060 a then 1065353216 else tanT a
def tanS (x : Int) : Int := if nan 2 x then 2143289344 else if zr 2 x then x else if sg 2 x then turnS 2 (tanA (turnS 2 x)) else tanA x
theorem tanT_w (a : Int) : w32 (tanT a) := subf_w _ _
theorem tanA_w (a : Int) : w32 (tanA a) := by
  unfold tanA; split
  · exact wlit rfl
  · exact tanT_w a
theorem tanh_w {x : Int} (h : w32 x) : w32 (tanS x) := by
  unfold tanS
  split
  · exact wlit rfl
  split
  · exact h
  split
  · exact turn2_w (tanA_w _)
  · exact tanA_w _
theorem tanh_eq {x : Int} (h : w32 x) : F_93 x = some (tanS x) := by
  have hr : ∀ (a : Int) (b : Bool), w32 a → ((F_915 a a).bind fun r5 =>
          (F_94 r5).bind fun r6 =>
          (F_915 r6 (1065353216:Int)).bind fun r7 =>
          (F_914 (1073741824:Int) r7).bind fun r8 =>
          (F_913 (1065353216:Int) r8).bind fun r9 =>
          bif b then
            (some (bits .xor .u32 (bits .and .u32 r9 (4294967295:Int)) (2147483648:Int)))
          else
            (some r9)) = some (if b then turnS 2 (tanT a) else tanT a) := by
    intro a b ha
    rw [fadd_eq ha ha]
    simp only [Option.bind_some]
    rw [exp_eq (addf_w _ _)]
    simp only [Option.bind_some]
    rw [fadd_eq exp_w (wlit rfl)]
    simp only [Option.bind_some]
    rw [fdiv_eq (wlit rfl) (addf_w _ _)]
    simp only [Option.bind_some]
    rw [fsub_eq (wlit rfl) (divf_w _ _)]
    simp only [Option.bind_some]
    rw [xminus (subf_w _ _)]
    cases b <;> rfl
  unfold F_93 tanS
  rw [fisnan_eq h, iszero_eq 2 h, sg2 h, xminus h]
  dsimp only
  rw [hr _ _ (turn2_w h), hr _ _ h, fabove_eq (turn2_w h) (wlit rfl), fabove_eq h (wlit rfl)]
  simp only [Option.bind_some]
  unfold tanA
  have e1 : turnS 2 (1065353216 : Int) = 3212836864 := by decide
  cases nan 2 x <;> cases zr 2 x <;> cases sg 2 x <;> cases lt 2 1091579060 (turnS 2 x) <;> cases lt 2 1091579060 x <;> simp [e1]
def sigS (x : Int) : Int := divf 1065353216 (addf 1065353216 (expS (turnS 2 x)))
theorem sigm_eq {x : Int} (h : w32 x) : F_95 x = some (sigS x) := by
  unfold F_95 sigS
  rw [xminus h, exp_eq (turn2_w h)]
  simp only [Option.bind_some]
  rw [fadd_eq (wlit rfl) exp_w]
  simp only [Option.bind_some]
  rw [fdiv_eq (wlit rfl) (addf_w _ _)]
  rfl
def innS (x : Int) : Int := mulf 1061962282 (fma 1027024659 (mulf (mulf x x) x) x)
theorem inner_eq {x : Int} (h : w32 x) : F_928 x = some (innS x) := by
  unfold F_928 innS
  rw [fmul_eq h h]
  simp only [Option.bind_some]
  rw [fmul_eq (mulf_w _ _) h]
  simp only [Option.bind_some]
  rw [ffma_eq (wlit rfl) (mulf_w _ _) h]
  simp only [Option.bind_some]
  rw [fmul_eq (wlit rfl) (fma_w _ _ _)]
  rfl
theorem inn_w (x : Int) : w32 (innS x) := mulf_w _ _
def gelS (x : Int) : Int := mulf (mulf 1056964608 x) (addf 1065353216 (tanS (innS x)))
theorem gelu_eq {x : Int} (h : w32 x) : F_9c x = some (gelS x) := by
  unfold F_9c gelS
  rw [fmul_eq (wlit rfl) h, inner_eq h]
  simp only [Option.bind_some]
  rw [tanh_eq (inn_w x)]
  simp only [Option.bind_some]
  rw [fadd_eq (wlit rfl) (tanh_w (inn_w x))]
  simp only [Option.bind_some]
  rw [fmul_eq (mulf_w _ _) (addf_w _ _)]
  rfl
theorem known12_eq : F_92 = some true := by
  unfold F_92
  rw [exp_eq (wlit rfl), log_eq (wlit rfl), sigm_eq (wlit rfl), gelu_eq (wlit rfl)]
  simp only [Option.bind_some]
  rw [show (expS 0 == 1065353216) = true by decide +kernel, show (logS 1065353216 == 0) = true by decide +kernel, show (sigS 0 == 1056964608) = true by decide +kernel, show (gelS 0 == 0) = true by decide +kernel]
  rfl
set_option exponentiation.threshold 2000
theorem turn2 {x : Int} (h : w32 x) : turnS 2 x = if 2147483648 ≤ x then x - 2147483648 else x + 2147483648 := by
  have h1 := h.1
  have h2 := h.2
  unfold turnS
  have e : sg 2 x = decide (2147483648 ≤ x) := by
    rw [Bool.eq_iff_iff, decide_eq_true_iff]; unfold sg; rw [decide_eq_true_iff, show TT 2 = 2147483648 from rfl]; omega
  rw [e]
  show (if decide (2147483648 ≤ x) = true then x % 4294967296 - 2147483648 else x % 4294967296 + 2147483648) = _
  rw [Int.emod_eq_of_lt h1 h2]
  by_cases k : 2147483648 ≤ x
  · rw [if_pos (decide_eq_true k), if_pos k]
  · rw [if_neg (by simp [k]), if_neg k]
theorem cs2 : BB 2 = 8388608 ∧ MM 2 = 23 ∧ RR 2 = 256 ∧ TT 2 = 2147483648 ∧ IN 2 = 2139095040 ∧ le 2 = -126 := by decide
def mv (m : Int) : Int := sig 2 m * 2 ^ (xp 2 m + 149).toNat
def vz (s : Int) : Int := sv (sg 2 s) (mv s)
theorem fin2_min (neg : Bool) (u q : Int) (h r s : Bool) (hu : -149 ≤ u) (hq : 0 ≤ q ∧ q ≤ 16777216) (hn : 8388608 ≤ q ∨ u = -149) :
    (fin2 2 0 neg u q h r s).1 = sgn 2 neg + min ((u + 149) * 8388608 + q) 2139095040 := by
  obtain ⟨c1, c2, c3, c4, c5, c6⟩ := cs2
  unfold fin2 overS
  rw [c1, c2, c3, c5, c6]
  have o : (if (0 : Int) = 1 ∨ ((0 : Int) = 2 ∧ neg = true) ∨ ((0 : Int) = 3 ∧ neg = false) then (2139095040 : Int) - 1 else 2139095040) = 2139095040 := by simp
  rw [o]
  by_cases t : q = 16777216
  · subst t
    simp only [show (16777216 : Int) / (2 * 8388608) = 1 by decide, show (16777216 : Int) / 2 / 8388608 = 1 by decide, show (16777216 : Int) / 2 % 8388608 = 0 by decide]
    simp
    by_cases k : u + 1 + 23 + 126 + 1 ≥ 255
    · rw [if_pos (by omega)]; show sgn 2 neg + 2139095040 = _; omega
    · rw [if_neg (by omega)]; show sgn 2 neg + _ = _; omega
  · have e1 : q / (2 * 8388608) = 0 := by omega
    rw [e1]
    simp only [if_true]
    rcases hn with hn | hn
    · have e2 : q / 8388608 = 1 := by omega
      rw [e2]
      simp
      by_cases k : u + 23 + 126 + 1 ≥ 255
      · rw [if_pos (by omega)]; show sgn 2 neg + 2139095040 = _; omega
      · rw [if_neg (by omega)]; show sgn 2 neg + _ + _ = _; omega
    · subst hn
      by_cases k : q / 8388608 = 0
      · rw [k]; simp; omega
      · have e2 : q / 8388608 = 1 := by omega
        rw [e2]; simp; omega
theorem pk_near (neg : Bool) {e N : Int} (hN : 0 < N) (he : -298 ≤ e) :
    ∃ u q : Int, -149 ≤ u ∧ 0 ≤ q ∧ q ≤ 16777216 ∧ (8388608 ≤ q ∨ u = -149) ∧ (pk 2 0 neg e N false).1 = sgn 2 neg + min ((u + 149) * 8388608 + q) 2139095040
      ∧ (∀ S X : Int, -149 ≤ X → X ≤ u → 0 ≤ S → N * 2 ^ (e + 298).toNat ≤ S * 2 ^ (X + 298).toNat → (X = u → q ≤ S) ∧ (X < u → 8388608 * 2 ^ (u - X).toNat ≤ S))
      ∧ (∀ S : Int, S * 2 ^ (u + 298).toNat ≤ N * 2 ^ (e + 298).toNat → S ≤ q)
      ∧ N * 2 ^ (e + 298).toNat < 16777216 * 2 ^ (u + 298).toNat := by
  obtain ⟨c1, c2, c3, c4, c5, c6⟩ := cs2
  have hqb := q_bd 2 e N (by omega)
  rw [c1] at hqb
  have hu : unitS 2 e N = max (-126) (e + ln N - 1) - 23 := by unfold unitS; rw [if_neg (by omega), c2, c6]
  have hnorm : 8388608 ≤ qS N (unitS 2 e N - e) ∨ unitS 2 e N = -149 := by
    by_cases k : unitS 2 e N = -149
    · exact Or.inr k
    left
    have hl := lg_le hN
    have hb : unitS 2 e N - e = lg N - 23 := by rw [hu, ln_pos hN] at k ⊢; omega
    unfold qS
    rw [hb]
    have c : (2 : Int) ^ 23 = 8388608 := rfl
    split
    · have := Int.mul_le_mul_of_nonneg_right hl (show (0 : Int) ≤ 2 ^ (-((lg N : Int) - 23)).toNat by have := p2_pos (-((lg N : Int) - 23)).toNat; omega)
      rw [← p2_add, show lg N + (-((lg N : Int) - 23)).toNat = 23 by omega] at this; omega
    · have p := p2_pos ((lg N : Int) - 23).toNat
      rw [Int.le_ediv_iff_mul_le p, ← c, ← p2_add, show 23 + ((lg N : Int) - 23).toNat = lg N by omega]; exact hl
  have hu0 : -149 ≤ unitS 2 e N := by rw [hu]; omega
  have hW : qS N (unitS 2 e N - e) * 2 ^ (unitS 2 e N + 298).toNat ≤ N * 2 ^ (e + 298).toNat ∧ N * 2 ^ (e + 298).toNat < (qS N (unitS 2 e N - e) + 1) * 2 ^ (unitS 2 e N + 298).toNat
      ∧ (halfS N (unitS 2 e N - e) = true → qS N (unitS 2 e N - e) * 2 ^ (unitS 2 e N + 298).toNat < N * 2 ^ (e + 298).toNat) := by
    unfold qS halfS
    have pe := p2_pos (e + 298).toNat
    have pu := p2_pos (unitS 2 e N + 298).toNat
    generalize unitS 2 e N = u at *
    by_cases k : u - e ≤ 0
    · rw [if_pos k, if_pos k]
      have : N * 2 ^ (-(u - e)).toNat * 2 ^ (u + 298).toNat = N * 2 ^ (e + 298).toNat := by
        rw [Int.mul_assoc, ← p2_add]; congr 2; omega
      refine ⟨by omega, ?_, fun h => by cases h⟩
      rw [Int.add_mul, this]; omega
    · rw [if_neg k, if_neg k]
      have e1 : (2 : Int) ^ (u + 298).toNat = 2 ^ (u - e).toNat * 2 ^ (e + 298).toNat := by rw [← p2_add]; congr 1; omega
      have p := p2_pos (u - e).toNat
      have d := Int.mul_ediv_add_emod N (2 ^ (u - e).toNat)
      have m0 := Int.emod_nonneg N (show (2 : Int) ^ (u - e).toNat ≠ 0 by omega)
      have m1 := Int.emod_lt_of_pos N p
      rw [e1, ← Int.mul_assoc, ← Int.mul_assoc]
      have t1 : N / 2 ^ (u - e).toNat * 2 ^ (u - e).toNat ≤ N := by rw [Int.mul_comm]; omega
      have t2 : N < (N / 2 ^ (u - e).toNat + 1) * 2 ^ (u - e).toNat := by rw [Int.add_mul, Int.mul_comm]; omega
      refine ⟨Int.mul_le_mul_of_nonneg_right t1 (by omega), Int.mul_lt_mul_of_pos_right t2 pe, fun h => ?_⟩
      apply Int.mul_lt_mul_of_pos_right _ pe
      have e2 : (2 : Int) ^ (u - e).toNat = 2 ^ (u - e - 1).toNat * 2 ^ 1 := by rw [← p2_add]; congr 1; omega
      have mm := mod_p2 N (u - e - 1).toNat 1
      rw [show (u - e - 1).toNat + 1 = (u - e).toNat by omega] at mm
      have h1 : N / 2 ^ (u - e - 1).toNat % 2 ^ 1 = 1 := of_decide_eq_true h
      rw [h1] at mm
      have p1 := p2_pos (u - e - 1).toNat
      have m2 := Int.emod_nonneg N (show (2 : Int) ^ (u - e - 1).toNat ≠ 0 by omega)
      rw [Int.mul_comm]; omega
  obtain ⟨w1, w2, w3⟩ := hW
  have pku : (pk 2 0 neg e N false).1 = (fin2 2 0 neg (unitS 2 e N) (fin1 0 neg (qS N (unitS 2 e N - e)) (halfS N (unitS 2 e N - e)) (restS N (unitS 2 e N - e) false)) (halfS N (unitS 2 e N - e)) (restS N (unitS 2 e N - e) false) (smallS 2 e N)).1 := by
    unfold pk; rw [if_neg (by omega)]
  have hf : fin1 0 neg (qS N (unitS 2 e N - e)) (halfS N (unitS 2 e N - e)) (restS N (unitS 2 e N - e) false) = qS N (unitS 2 e N - e) ∨ (fin1 0 neg (qS N (unitS 2 e N - e)) (halfS N (unitS 2 e N - e)) (restS N (unitS 2 e N - e) false) = qS N (unitS 2 e N - e) + 1 ∧ halfS N (unitS 2 e N - e) = true) := by
    unfold fin1 upS
    cases halfS N (unitS 2 e N - e)
    · left; simp
    · by_cases k : (restS N (unitS 2 e N - e) false || decide (qS N (unitS 2 e N - e) % 2 = 1)) = true
      · right; refine ⟨?_, rfl⟩; simp only [Bool.true_and]; rw [k]; simp
      · left; simp only [Bool.true_and]; rw [Bool.not_eq_true] at k; rw [k]; simp
  rw [pku]
  generalize fin1 0 neg (qS N (unitS 2 e N - e)) (halfS N (unitS 2 e N - e)) (restS N (unitS 2 e N - e) false) = q1 at *
  generalize halfS N (unitS 2 e N - e) = hh at *
  generalize restS N (unitS 2 e N - e) false = rr at *
  generalize smallS 2 e N = ss at *
  generalize qS N (unitS 2 e N - e) = q at *
  generalize unitS 2 e N = u at *
  have pu := p2_pos (u + 298).toNat
  refine ⟨u, q1, hu0, by omega, by omega, by omega, fin2_min neg u q1 hh rr ss hu0 (by omega) (by omega), ?_, ?_, ?_⟩
  · intro S X x1 x2 s0 hS
    refine ⟨fun k => ?_, fun k => ?_⟩
    · subst k
      rcases hf with hf | ⟨hf, hh1⟩
      · rw [hf]
        have := Int.le_trans w1 hS
        exact Int.le_of_mul_le_mul_right this pu
      · have := Int.lt_of_lt_of_le (w3 hh1) hS
        have := Int.lt_of_mul_lt_mul_right this (by omega)
        omega
    · have e1 : (2 : Int) ^ (u + 298).toNat = 2 ^ (u - X).toNat * 2 ^ (X + 298).toNat := by rw [← p2_add]; congr 1; omega
      have px := p2_pos (X + 298).toNat
      have hq : 8388608 ≤ q := by omega
      have t1 : 8388608 * 2 ^ (u + 298).toNat ≤ q * 2 ^ (u + 298).toNat := Int.mul_le_mul_of_nonneg_right hq (by omega)
      rw [e1, ← Int.mul_assoc] at t1
      rw [e1] at w1
      exact Int.le_of_mul_le_mul_right (Int.le_trans t1 (Int.le_trans w1 hS)) px
  · intro S hS
    have := Int.lt_of_le_of_lt hS w2
    have := Int.lt_of_mul_lt_mul_right this (by omega)
    omega
  · have : (q + 1) * 2 ^ (u + 298).toNat ≤ 16777216 * 2 ^ (u + 298).toNat := Int.mul_le_mul_of_nonneg_right (by omega) (by omega)
    omega
theorem code_parts {c : Int} (h0 : 0 ≤ c) (h1 : c < 2139095040) : -149 ≤ xp 2 c ∧ xp 2 c ≤ 127 ∧ c = (xp 2 c + 149) * 8388608 + sig 2 c ∧ 0 ≤ sig 2 c ∧ sig 2 c < 16777216 ∧ (8388608 ≤ sig 2 c ∨ xp 2 c = -149) := by
  obtain ⟨c1, c2, c3, c4, c5, c6⟩ := cs2
  unfold xp sig ex ff
  rw [c1, c2, c3, c6]
  have e1 : c / 8388608 % 256 = c / 8388608 := by omega
  rw [e1]
  by_cases k : c / 8388608 = 0
  · rw [if_pos k, if_pos k]; omega
  · rw [if_neg k, if_neg k, if_neg (by omega), if_neg (by omega)]; omega
theorem mv_nn (c : Int) : 0 ≤ mv c := Int.mul_nonneg (sig_bd 2 c).1 (by have := p2_pos (xp 2 c + 149).toNat; omega)
theorem mv_up (c : Int) : mv c * 2 ^ 149 = sig 2 c * 2 ^ (xp 2 c + 298).toNat := by
  have := xp_bd 2 c
  unfold mv
  rw [Int.mul_assoc, ← p2_add]; congr 2; omega
theorem mv_le {m c : Int} (h0 : 0 ≤ m) (h : m ≤ c) (h1 : c < 2139095040) : mv m ≤ mv c := by
  obtain ⟨a1, a2, a3, a4, a5, a6⟩ := code_parts h0 (by omega : m < 2139095040)
  obtain ⟨b1, b2, b3, b4, b5, b6⟩ := code_parts (by omega : 0 ≤ c) h1
  unfold mv
  generalize sig 2 m = S at *
  generalize sig 2 c = R at *
  generalize xp 2 m = X at *
  generalize xp 2 c = Y at *
  have px := p2_pos (X + 149).toNat
  by_cases k : X = Y
  · subst k
    exact Int.mul_le_mul_of_nonneg_right (by omega) (by omega)
  · have hXY : X < Y := by omega
    have e1 : (2 : Int) ^ (Y + 149).toNat = 2 ^ (Y - X - 1).toNat * 2 ^ 1 * 2 ^ (X + 149).toNat := by rw [← p2_add, ← p2_add]; congr 1; omega
    have p1 := p2_pos (Y - X - 1).toNat
    rw [e1, ← Int.mul_assoc]
    apply Int.mul_le_mul_of_nonneg_right _ (by omega)
    have : R * 1 ≤ R * 2 ^ (Y - X - 1).toNat := Int.mul_le_mul_of_nonneg_left (by omega) b4
    rw [← Int.mul_assoc]
    omega
theorem rnd_mag (neg : Bool) {e N : Int} (hN : 0 < N) (he : -298 ≤ e) :
    ∃ M : Int, 0 ≤ M ∧ M ≤ 2139095040 ∧ (pk 2 0 neg e N false).1 = sgn 2 neg + M
      ∧ (∀ c, 0 ≤ c → c < 2139095040 → N * 2 ^ (e + 298).toNat ≤ mv c * 2 ^ 149 → M ≤ c)
      ∧ (∀ c, 0 ≤ c → c < 2139095040 → mv c * 2 ^ 149 ≤ N * 2 ^ (e + 298).toNat → c ≤ M) := by
  obtain ⟨u, q, u0, q0, q1, qn, hp, hu, hl, hw⟩ := pk_near neg hN he
  refine ⟨min ((u + 149) * 8388608 + q) 2139095040, by omega, by omega, hp, ?_, ?_⟩
  · intro c h0 h1 hc
    obtain ⟨b1, b2, b3, b4, b5, b6⟩ := code_parts h0 h1
    rw [mv_up] at hc
    generalize sig 2 c = R at *
    generalize xp 2 c = Y at *
    by_cases k : Y ≤ u
    · obtain ⟨z1, z2⟩ := hu R Y b1 k b4 hc
      by_cases k2 : Y = u
      · have := z1 k2; omega
      · have := z2 (by omega)
        have e1 : (2 : Int) ^ (u - Y).toNat = 2 * 2 ^ (u - Y - 1).toNat := by rw [← p2_succ]; congr 1; omega
        have p1 := p2_pos (u - Y - 1).toNat
        omega
    · omega
  · intro c h0 h1 hc
    obtain ⟨b1, b2, b3, b4, b5, b6⟩ := code_parts h0 h1
    rw [mv_up] at hc
    generalize sig 2 c = R at *
    generalize xp 2 c = Y at *
    by_cases k : Y = u
    · subst k
      have := hl R hc
      omega
    · by_cases k2 : Y < u
      · omega
      · exfalso
        have h3 := Int.lt_of_le_of_lt hc hw
        have pu := p2_pos (u + 298).toNat
        have e1 : (2 : Int) ^ (Y + 298).toNat = 2 ^ (Y - u - 1).toNat * 2 ^ 1 * 2 ^ (u + 298).toNat := by rw [← p2_add, ← p2_add]; congr 1; omega
        rw [e1, ← Int.mul_assoc] at h3
        have h4 := Int.lt_of_mul_lt_mul_right h3 (by omega)
        have p1 := p2_pos (Y - u - 1).toNat
        have : R * 1 ≤ R * 2 ^ (Y - u - 1).toNat := Int.mul_le_mul_of_nonneg_left (by omega) b4
        rw [← Int.mul_assoc] at h4
        omega
def fnt (s : Int) : Prop := w32 s ∧ s % 2147483648 < 2139095040
theorem fin_nan {s : Int} (h : fnt s) : nan 2 s = false := by
  unfold nan; exact decide_eq_false (by show ¬ (2139095040 < s % 2147483648); have := h.2; omega)
theorem fin_inf {s : Int} (h : fnt s) : inff 2 s = false := by
  unfold inff; exact decide_eq_false (by show ¬ (s % 2147483648 = 2139095040); have := h.2; omega)
theorem mv_mod (s : Int) (h : w32 s) : mv (s % 2147483648) = mv s := by
  obtain ⟨c1, c2, c3, c4, c5, c6⟩ := cs2
  have h1 := h.1
  have h2 := h.2
  have e1 : s % 2147483648 / 8388608 % 256 = s / 8388608 % 256 := by omega
  have e2 : s % 2147483648 % 8388608 = s % 8388608 := by omega
  unfold mv xp sig ex ff
  rw [c1, c2, c3, c6, e1, e2]
theorem sgd {s : Int} (h : w32 s) : sg 2 s = decide (2147483648 ≤ s) := by
  have h1 := h.1
  have h2 := h.2
  unfold sg
  rw [show TT 2 = 2147483648 from rfl, Bool.eq_iff_iff, decide_eq_true_iff, decide_eq_true_iff]; omega
theorem vz_pos {s : Int} (h : w32 s) (k : s < 2147483648) : vz s = mv s := by
  unfold vz; rw [sgd h, decide_eq_false (by omega)]; rfl
theorem vz_neg {s : Int} (h : w32 s) (k : 2147483648 ≤ s) : vz s = -mv (s - 2147483648) := by
  have h1 := h.1
  have h2 := h.2
  unfold vz; rw [sgd h, decide_eq_true k, ← mv_mod s h, show s % 2147483648 = s - 2147483648 by omega]; rfl
theorem pk_in (neg : Bool) {e N lo hi : Int} (hN : 0 ≤ N) (he : -298 ≤ e) (fl : fnt lo) (fh : fnt hi)
    (h1 : vz lo * 2 ^ 149 ≤ sv neg (N * 2 ^ (e + 298).toNat)) (h2 : sv neg (N * 2 ^ (e + 298).toNat) ≤ vz hi * 2 ^ 149) :
    fnt (pk 2 0 neg e N false).1 ∧ vz lo ≤ vz (pk 2 0 neg e N false).1 ∧ vz (pk 2 0 neg e N false).1 ≤ vz hi := by
  have P : (0 : Int) < 2 ^ 149 := p2_pos 149
  have c4 : sgn 2 true = 2147483648 := rfl
  have c5 : sgn 2 false = 0 := rfl
  by_cases h0 : N = 0
  · subst h0
    have hz : (pk 2 0 neg e 0 false).1 = sgn 2 neg := by unfold pk; rw [if_pos ⟨rfl, rfl⟩]
    have hs : sv neg (0 * 2 ^ (e + 298).toNat) = 0 := by unfold sv; cases neg <;> simp
    rw [hs] at h1 h2
    have v0 : vz (sgn 2 neg) = 0 := by cases neg <;> decide
    rw [hz, v0]
    refine ⟨⟨by cases neg <;> exact ⟨by decide, by decide⟩, by cases neg <;> decide⟩, ?_, ?_⟩
    · exact Int.le_of_mul_le_mul_right (by rw [Int.zero_mul]; exact h1) P
    · exact Int.le_of_mul_le_mul_right (by rw [Int.zero_mul]; exact h2) P
  have hp : 0 < N := by omega
  have hW : 0 < N * 2 ^ (e + 298).toNat := Int.mul_pos hp (p2_pos _)
  obtain ⟨M, m0, m1, hM, hu, hl⟩ := rnd_mag neg hp he
  generalize N * 2 ^ (e + 298).toNat = W at *
  rw [hM]
  have wl := fl.1
  have wh := fh.1
  have l1 := wl.1
  have l2 := wl.2
  have g1 := wh.1
  have g2 := wh.2
  have fl2 := fl.2
  have fh2 := fh.2
  cases neg
  · -- above nought
    rw [c5, Int.zero_add]
    have hsv : sv false W = W := rfl
    rw [hsv] at h1 h2
    have hpos : 0 < vz hi := by
      have : 0 < vz hi * 2 ^ 149 := by omega
      exact Int.pos_of_mul_pos_left this P
    have hhi : hi < 2147483648 := by
      apply Int.lt_of_not_ge; intro k
      rw [vz_neg wh k] at hpos
      have := mv_nn (hi - 2147483648); omega
    have hv := vz_pos wh hhi
    have hMc : M ≤ hi := hu hi g1 (by omega) (by rw [← hv]; exact h2)
    have wM : w32 M := ⟨by omega, by omega⟩
    have vM := vz_pos wM (by omega)
    refine ⟨⟨wM, by omega⟩, ?_, ?_⟩
    · by_cases k : lo < 2147483648
      · have hvl := vz_pos wl k
        rw [hvl] at h1 ⊢
        rw [vM]
        exact mv_le l1 (hl lo l1 (by omega) h1) (by omega)
      · rw [vz_neg wl (by omega), vM]
        have := mv_nn (lo - 2147483648)
        have := mv_nn M
        omega
    · rw [vM, hv]; exact mv_le m0 hMc (by omega)
  · -- below nought
    rw [c4]
    have hsv : sv true W = -W := rfl
    rw [hsv] at h1 h2
    have hneg : vz lo < 0 := by
      have h3 : vz lo * 2 ^ 149 < 0 := by omega
      apply Int.lt_of_not_ge; intro k
      have := Int.mul_nonneg k (Int.le_of_lt P)
      omega
    have hlo : 2147483648 ≤ lo := by
      apply Int.le_of_not_gt; intro k
      rw [vz_pos wl k] at hneg
      have := mv_nn lo; omega
    have hv := vz_neg wl hlo
    have hMc : M ≤ lo - 2147483648 := hu (lo - 2147483648) (by omega) (by omega) (by rw [hv, Int.neg_mul] at h1; omega)
    have wM : w32 (2147483648 + M) := ⟨by omega, by omega⟩
    have vM := vz_neg wM (by omega)
    rw [show 2147483648 + M - 2147483648 = M by omega] at vM
    refine ⟨⟨wM, by omega⟩, ?_, ?_⟩
    · rw [vM, hv]
      have := mv_le m0 hMc (by omega)
      omega
    · by_cases k : hi < 2147483648
      · rw [vz_pos wh k, vM]
        have := mv_nn hi
        have := mv_nn M
        omega
      · have hvh := vz_neg wh (by omega)
        rw [hvh, Int.neg_mul] at h2
        have := mv_le (by omega) (hl (hi - 2147483648) (by omega) (by omega) (by omega)) (show M < 2139095040 by omega)
        rw [hvh, vM]; omega
theorem svl (x : Int) : sv (sg 2 x) (sig 2 x * 2 ^ (xp 2 x + 149).toNat) = vz x := rfl
theorem svl_up (x : Int) : sv (sg 2 x) (sig 2 x * 2 ^ (xp 2 x + 298).toNat) = vz x * 2 ^ 149 := by
  rw [← mv_up, sv_mul]; rfl
theorem sv_mul2 (m n : Bool) (A B : Int) : sv (!(m == n)) (A * B) = sv m A * sv n B := by
  unfold sv; cases m <;> cases n <;> simp [Int.neg_mul, Int.mul_neg]
theorem svl_mul (a b : Int) : sv (!(sg 2 a == sg 2 b)) (sig 2 a * sig 2 b * 2 ^ (xp 2 a + xp 2 b + 298).toNat) = vz a * vz b := by
  have xa := xp_bd 2 a
  have xb := xp_bd 2 b
  rw [← svl a, ← svl b, ← sv_mul2]
  congr 1
  rw [show (xp 2 a + xp 2 b + 298).toNat = (xp 2 a + 149).toNat + (xp 2 b + 149).toNat by omega, p2_add]
  rw [Int.mul_assoc, Int.mul_assoc, Int.mul_left_comm (sig 2 b)]
theorem tot_in {T lo hi : Int} (fl : fnt lo) (fh : fnt hi) (h1 : vz lo * 2 ^ 149 ≤ T) (h2 : T ≤ vz hi * 2 ^ 149) :
    fnt (totS 2 0 T).1 ∧ vz lo ≤ vz (totS 2 0 T).1 ∧ vz (totS 2 0 T).1 ≤ vz hi := by
  have P : (0 : Int) < 2 ^ 149 := p2_pos 149
  unfold totS
  by_cases h0 : T = 0
  · rw [if_pos h0]
    subst h0
    have v0 : vz (sgn 2 (decide ((0 : Int) = 3))) = 0 := by decide
    show fnt (sgn 2 (decide ((0 : Int) = 3))) ∧ vz lo ≤ vz (sgn 2 (decide ((0 : Int) = 3))) ∧ vz (sgn 2 (decide ((0 : Int) = 3))) ≤ vz hi
    rw [v0]
    refine ⟨⟨⟨by decide, by decide⟩, by decide⟩, ?_, ?_⟩
    · exact Int.le_of_mul_le_mul_right (by rw [Int.zero_mul]; exact h1) P
    · exact Int.le_of_mul_le_mul_right (by rw [Int.zero_mul]; exact h2) P
  · rw [if_neg h0]
    have e : sv (decide (T < 0)) ((if T < 0 then -T else T) * 2 ^ ((-298 : Int) + 298).toNat) = T := by
      unfold sv
      by_cases k : T < 0
      · rw [if_pos (decide_eq_true k), if_pos k]; simp
      · rw [if_neg (by simp [k]), if_neg k]; simp
    exact pk_in _ (by split <;> omega) (by decide) fl fh (by rw [e]; exact h1) (by rw [e]; exact h2)
theorem sum_in {n m : Bool} {e N d M lo hi : Int} (fl : fnt lo) (fh : fnt hi)
    (h1 : vz lo * 2 ^ 149 ≤ sv n (N * 2 ^ (e + 298).toNat) + sv m (M * 2 ^ (d + 298).toNat)) (h2 : sv n (N * 2 ^ (e + 298).toNat) + sv m (M * 2 ^ (d + 298).toNat) ≤ vz hi * 2 ^ 149) :
    fnt (sumS 2 0 n e N m d M).1 ∧ vz lo ≤ vz (sumS 2 0 n e N m d M).1 ∧ vz (sumS 2 0 n e N m d M).1 ≤ vz hi := by
  have P : (0 : Int) < 2 ^ 149 := p2_pos 149
  unfold sumS
  generalize sv n (N * 2 ^ (e + 298).toNat) + sv m (M * 2 ^ (d + 298).toNat) = T at *
  by_cases h0 : T = 0 ∧ n = m
  · rw [if_pos h0]
    rw [h0.1] at h1 h2
    have v0 : vz (sgn 2 n) = 0 := by cases n <;> decide
    show fnt (sgn 2 n) ∧ vz lo ≤ vz (sgn 2 n) ∧ vz (sgn 2 n) ≤ vz hi
    rw [v0]
    refine ⟨⟨by cases n <;> exact ⟨by decide, by decide⟩, by cases n <;> decide⟩, ?_, ?_⟩
    · exact Int.le_of_mul_le_mul_right (by rw [Int.zero_mul]; exact h1) P
    · exact Int.le_of_mul_le_mul_right (by rw [Int.zero_mul]; exact h2) P
  · rw [if_neg h0]; exact tot_in fl fh h1 h2
theorem mulf_in {a b lo hi : Int} (fa : fnt a) (fb : fnt b) (fl : fnt lo) (fh : fnt hi) (h1 : vz lo * 2 ^ 149 ≤ vz a * vz b) (h2 : vz a * vz b ≤ vz hi * 2 ^ 149) :
    fnt (mulf a b) ∧ vz lo ≤ vz (mulf a b) ∧ vz (mulf a b) ≤ vz hi := by
  have xa := xp_bd 2 a
  have xb := xp_bd 2 b
  unfold mulf mulS
  rw [fin_nan fa, fin_nan fb, fin_inf fa, fin_inf fb]
  simp only [Bool.or_false, Bool.and_false, Bool.false_and, Bool.false_eq_true, if_false]
  exact pk_in _ (Int.mul_nonneg (sig_bd 2 a).1 (sig_bd 2 b).1) (by omega) fl fh (by rw [svl_mul]; exact h1) (by rw [svl_mul]; exact h2)
theorem fma_in {a b c lo hi : Int} (fa : fnt a) (fb : fnt b) (fc : fnt c) (fl : fnt lo) (fh : fnt hi) (h1 : vz lo * 2 ^ 149 ≤ vz a * vz b + vz c * 2 ^ 149) (h2 : vz a * vz b + vz c * 2 ^ 149 ≤ vz hi * 2 ^ 149) :
    fnt (fma a b c) ∧ vz lo ≤ vz (fma a b c) ∧ vz (fma a b c) ≤ vz hi := by
  unfold fma fmaS
  rw [fin_nan fa, fin_nan fb, fin_nan fc, fin_inf fa, fin_inf fb, fin_inf fc]
  simp only [Bool.or_false, Bool.and_false, Bool.false_and, Bool.false_eq_true, if_false]
  exact sum_in fl fh (by rw [svl_mul, svl_up]; exact h1) (by rw [svl_mul, svl_up]; exact h2)
theorem addf_in {a b lo hi : Int} (fa : fnt a) (fb : fnt b) (fl : fnt lo) (fh : fnt hi) (h1 : vz lo ≤ vz a + vz b) (h2 : vz a + vz b ≤ vz hi) :
    fnt (addf a b) ∧ vz lo ≤ vz (addf a b) ∧ vz (addf a b) ≤ vz hi := by
  have P : (0 : Int) ≤ 2 ^ 149 := by have := p2_pos 149; omega
  unfold addf addS
  rw [fin_nan fa, fin_nan fb, fin_inf fa, fin_inf fb]
  simp only [Bool.or_false, Bool.and_false, Bool.false_and, Bool.false_eq_true, if_false]
  exact sum_in fl fh (by rw [svl_up, svl_up, ← Int.add_mul]; exact Int.mul_le_mul_of_nonneg_right h1 P) (by rw [svl_up, svl_up, ← Int.add_mul]; exact Int.mul_le_mul_of_nonneg_right h2 P)
theorem turn_fin {b : Int} (fb : fnt b) : fnt (turnS 2 b) ∧ vz (turnS 2 b) = -vz b := by
  have w := fb.1
  have h1 := w.1
  have h2 := w.2
  have h3 := fb.2
  have e := turn2 w
  by_cases k : 2147483648 ≤ b
  · rw [if_pos k] at e
    rw [e]
    have w' : w32 (b - 2147483648) := ⟨by omega, by omega⟩
    refine ⟨⟨w', by omega⟩, ?_⟩
    rw [vz_neg w k, vz_pos w' (by omega)]; omega
  · rw [if_neg k] at e
    rw [e]
    have w' : w32 (b + 2147483648) := ⟨by omega, by omega⟩
    refine ⟨⟨w', by omega⟩, ?_⟩
    rw [vz_neg w' (by omega), vz_pos w (by omega), show b + 2147483648 - 2147483648 = b by omega]
theorem subf_in {a b lo hi : Int} (fa : fnt a) (fb : fnt b) (fl : fnt lo) (fh : fnt hi) (h1 : vz lo ≤ vz a - vz b) (h2 : vz a - vz b ≤ vz hi) :
    fnt (subf a b) ∧ vz lo ≤ vz (subf a b) ∧ vz (subf a b) ≤ vz hi := by
  have ⟨ft, vt⟩ := turn_fin fb
  have e : subf a b = addf a (turnS 2 b) := by
    unfold subf subS addf
    rw [fin_nan fa, fin_nan fb]; rfl
  rw [e]
  exact addf_in fa ft fl fh (by rw [vt]; omega) (by rw [vt]; omega)
def pw (k : Nat) : Int := ((k : Int) + 127) * 8388608
theorem pw_fin {k : Nat} (h : k ≤ 127) : fnt (pw k) ∧ vz (pw k) = 2 ^ k * 2 ^ 149 ∧ fnt (pw k + 2147483648) ∧ vz (pw k + 2147483648) = -(2 ^ k * 2 ^ 149) := by
  obtain ⟨c1, c2, c3, c4, c5, c6⟩ := cs2
  have hb : 0 ≤ pw k ∧ pw k < 2139095040 := by unfold pw; omega
  have hm : mv (pw k) = 2 ^ k * 2 ^ 149 := by
    unfold mv xp sig ex ff
    rw [c1, c2, c3, c6]
    have e1 : pw k / 8388608 % 256 = (k : Int) + 127 := by unfold pw; omega
    have e2 : pw k % 8388608 = 0 := by unfold pw; omega
    rw [e1, e2, if_neg (by omega), if_neg (by omega), if_neg (by omega), if_neg (by omega)]
    rw [show (0 : Int) + 8388608 = 2 ^ 23 from rfl, ← p2_add, ← p2_add]
    congr 1; omega
  have w1 : w32 (pw k) := ⟨by omega, by omega⟩
  have w2 : w32 (pw k + 2147483648) := ⟨by omega, by omega⟩
  refine ⟨⟨w1, by omega⟩, by rw [vz_pos w1 (by omega), hm], ⟨w2, by omega⟩, ?_⟩
  rw [vz_neg w2 (by omega), show pw k + 2147483648 - 2147483648 = pw k by omega, hm]
def ab (k : Nat) (s : Int) : Prop := fnt s ∧ -(2 ^ k * 2 ^ 149) ≤ vz s ∧ vz s ≤ 2 ^ k * 2 ^ 149
theorem abs_mul {a b A B : Int} (h1 : -A ≤ a ∧ a ≤ A) (h2 : -B ≤ b ∧ b ≤ B) : -(A * B) ≤ a * b ∧ a * b ≤ A * B := by
  have k1 : 0 ≤ (A - a) * (B + b) := Int.mul_nonneg (by omega) (by omega)
  have k2 : 0 ≤ (A + a) * (B - b) := Int.mul_nonneg (by omega) (by omega)
  have k3 : 0 ≤ (A - a) * (B - b) := Int.mul_nonneg (by omega) (by omega)
  have k4 : 0 ≤ (A + a) * (B + b) := Int.mul_nonneg (by omega) (by omega)
  simp only [Int.sub_mul, Int.add_mul, Int.mul_add, Int.mul_sub] at k1 k2 k3 k4
  omega
theorem ab_mono {i j : Nat} (h : i ≤ j) {s : Int} (a : ab i s) : ab j s := by
  have P : (0 : Int) ≤ 2 ^ 149 := by have := p2_pos 149; omega
  have := Int.mul_le_mul_of_nonneg_right (p2_le h) P
  exact ⟨a.1, by have := a.2.1; omega, by have := a.2.2; omega⟩
theorem ab_prod {i j m : Nat} (h : i + j ≤ m) {a b : Int} (ha : ab i a) (hb : ab j b) : -(2 ^ m * 2 ^ 149 * 2 ^ 149) ≤ vz a * vz b ∧ vz a * vz b ≤ 2 ^ m * 2 ^ 149 * 2 ^ 149 := by
  have P : (0 : Int) ≤ 2 ^ 149 * 2 ^ 149 := by have := p2_pos 149; exact Int.mul_nonneg (by omega) (by omega)
  have k := abs_mul ha.2 hb.2
  have e : (2 : Int) ^ i * 2 ^ 149 * (2 ^ j * 2 ^ 149) = 2 ^ (i + j) * (2 ^ 149 * 2 ^ 149) := by
    rw [p2_add, Int.mul_assoc, Int.mul_assoc, Int.mul_left_comm ((2 : Int) ^ 149)]
  rw [e] at k
  have := Int.mul_le_mul_of_nonneg_right (p2_le h) P
  rw [Int.mul_assoc]
  omega
theorem ab_mul {i j m : Nat} (h : i + j ≤ m) (hm : m ≤ 127) {a b : Int} (ha : ab i a) (hb : ab j b) : ab m (mulf a b) := by
  obtain ⟨f1, v1, f2, v2⟩ := pw_fin hm
  have k := ab_prod h ha hb
  have := mulf_in ha.1 hb.1 f2 f1 (by rw [v2, Int.neg_mul]; exact k.1) (by rw [v1]; exact k.2)
  rw [v1, v2] at this
  exact this
theorem ab_lit {k : Nat} {s : Int} (h : (decide (0 ≤ s) && (decide (s ≤ 4294967295) && (decide (s % 2147483648 < 2139095040) && (decide (-(2 ^ k * 2 ^ 149) ≤ vz s) && decide (vz s ≤ 2 ^ k * 2 ^ 149))))) = true) : ab k s := by
  simp only [Bool.and_eq_true, decide_eq_true_eq] at h
  exact ⟨⟨⟨h.1, by have := h.2.1; omega⟩, h.2.2.1⟩, h.2.2.2.1, h.2.2.2.2⟩
theorem units_near (neg : Bool) {e N : Int} (hN : 0 ≤ N) (he : -149 ≤ e) (h : ¬ e + ln N > 40) :
    -(2 ^ 149) ≤ 2 * ((unitsW 0 neg e N).1 * 2 ^ 149 - N * 2 ^ (e + 149).toNat) ∧ 2 * ((unitsW 0 neg e N).1 * 2 ^ 149 - N * 2 ^ (e + 149).toNat) ≤ 2 ^ 149 := by
  have P : (0 : Int) < 2 ^ 149 := p2_pos 149
  unfold unitsW
  rw [if_neg h]
  show -(2 ^ 149) ≤ 2 * (fin1 0 neg (qS N (-e)) (halfS N (-e)) (restS N (-e) false) * 2 ^ 149 - _) ∧ 2 * (fin1 0 neg (qS N (-e)) (halfS N (-e)) (restS N (-e) false) * 2 ^ 149 - _) ≤ _
  unfold fin1 upS qS halfS restS
  by_cases k : -e ≤ 0
  · rw [if_pos k, if_pos k, if_pos k]
    have : N * 2 ^ (- -e).toNat * 2 ^ 149 = N * 2 ^ (e + 149).toNat := by rw [Int.mul_assoc, ← p2_add]; congr 2; omega
    simp
    simp at this
    rw [this]; omega
  · rw [if_neg k, if_neg k, if_neg k]
    have e1 : (2 : Int) ^ 149 = 2 ^ (-e).toNat * 2 ^ (e + 149).toNat := by rw [← p2_add]; congr 1; omega
    have e2 : (2 : Int) ^ (-e).toNat = 2 ^ (-e - 1).toNat * 2 := by rw [Int.mul_comm, ← p2_succ]; congr 1; omega
    have p := p2_pos (-e).toNat
    have p1 := p2_pos (-e - 1).toNat
    have pe := p2_pos (e + 149).toNat
    have d := Int.mul_ediv_add_emod N (2 ^ (-e).toNat)
    have m0 := Int.emod_nonneg N (show (2 : Int) ^ (-e).toNat ≠ 0 by omega)
    have m1 := Int.emod_lt_of_pos N p
    have mm := mod_p2 N (-e - 1).toNat 1
    rw [show (-e - 1).toNat + 1 = (-e).toNat by omega] at mm
    have m2 := Int.emod_nonneg N (show (2 : Int) ^ (-e - 1).toNat ≠ 0 by omega)
    have m3 := Int.emod_lt_of_pos N p1
    rw [show (2 : Int) ^ 1 = 2 from rfl] at mm
    have key : ∀ z : Int, -(2 ^ (-e).toNat) ≤ 2 * (z * 2 ^ (-e).toNat - N) → 2 * (z * 2 ^ (-e).toNat - N) ≤ 2 ^ (-e).toNat →
        -(2 ^ 149) ≤ 2 * (z * 2 ^ 149 - N * 2 ^ (e + 149).toNat) ∧ 2 * (z * 2 ^ 149 - N * 2 ^ (e + 149).toNat) ≤ 2 ^ 149 := by
      intro z z1 z2
      have y1 := Int.mul_le_mul_of_nonneg_right z1 (Int.le_of_lt pe)
      have y2 := Int.mul_le_mul_of_nonneg_right z2 (Int.le_of_lt pe)
      rw [e1]
      rw [Int.mul_assoc, Int.sub_mul, Int.mul_assoc z] at y1 y2
      rw [Int.neg_mul] at y1
      exact ⟨y1, y2⟩
    generalize hq : N / 2 ^ (-e).toNat = q at *
    generalize hh : N / 2 ^ (-e - 1).toNat % 2 = hb at *
    generalize hr : N % 2 ^ (-e - 1).toNat = r at *
    generalize (2 : Int) ^ (-e - 1).toNat = H at *
    generalize N % 2 ^ (-e).toNat = w at *
    generalize (2 : Int) ^ (-e).toNat = G at *
    have hb01 : hb = 0 ∨ hb = 1 := by omega
    simp only [show ¬ ((0 : Int) = 1) by decide, show ¬ ((0 : Int) = 2) by decide, show ¬ ((0 : Int) = 3) by decide, show ¬ ((0 : Int) = 4) by decide, if_false, Bool.false_or]
    rcases hb01 with rfl | rfl
    · rw [show decide ((0 : Int) = 1) = false by decide]
      simp only [Bool.false_and, Bool.false_eq_true, if_false]
      rw [Int.mul_zero] at mm
      apply key q <;> rw [Int.mul_comm q] <;> omega
    · rw [show decide ((1 : Int) = 1) = true by decide]
      simp only [Bool.true_and]
      rw [Int.mul_one] at mm
      split
      · apply key (q + 1) <;> rw [Int.mul_comm (q + 1), Int.mul_add] <;> omega
      · have hr0 : r = 0 := by
          apply Classical.byContradiction
          intro n
          rename_i hn
          exact hn (by simp [n])
        apply key q <;> rw [Int.mul_comm q] <;> omega
theorem wholef_near {m : Int} (h : ab 30 m) : -(2 ^ 149) ≤ 2 * (wholef m * 2 ^ 149 - vz m) ∧ 2 * (wholef m * 2 ^ 149 - vz m) ≤ 2 ^ 149 := by
  have P : (0 : Int) < 2 ^ 149 := p2_pos 149
  have xb := xp_bd 2 m
  have sb := sig_bd 2 m
  have hv : vz m = sv (sg 2 m) (sig 2 m * 2 ^ (xp 2 m + 149).toNat) := rfl
  have h1 := h.2.1
  have h2 := h.2.2
  rw [hv] at h1 h2
  have hN : sig 2 m * 2 ^ (xp 2 m + 149).toNat ≤ 2 ^ 30 * 2 ^ 149 := by
    unfold sv at h1 h2; cases hs : sg 2 m <;> rw [hs] at h1 h2 <;> simp at h1 h2 ⊢ <;> omega
  have hs : ¬ xp 2 m + ln (sig 2 m) > 40 := by
    intro k
    by_cases h0 : sig 2 m = 0
    · have hz : xp 2 m + ln (sig 2 m) > 40 := k
      rw [h0, ln_zero] at hz
      have hx : ex 2 m < 255 := (ex_fin 2 m).2 h.1.2
      have : xp 2 m = -149 ∨ sig 2 m ≥ 8388608 := by
        unfold xp sig
        have := ff_bd 2 m
        rw [show RR 2 = 256 from rfl, show BB 2 = 8388608 from rfl]
        by_cases z : ex 2 m = 0
        · left; rw [if_pos z]; rfl
        · right; rw [if_neg z, if_neg (by omega)]; omega
      omega
    · have hp : 0 < sig 2 m := by omega
      rw [ln_pos hp] at k
      have hl := lg_le hp
      have := Int.mul_le_mul_of_nonneg_right hl (show (0 : Int) ≤ 2 ^ (xp 2 m + 149).toNat by have := p2_pos (xp 2 m + 149).toNat; omega)
      rw [← p2_add] at this
      have c := p2_lt (show 30 + 149 < lg (sig 2 m) + (xp 2 m + 149).toNat by omega)
      rw [p2_add 30 149] at c
      omega
  have un := units_near (sg 2 m) (N := sig 2 m) sb.1 xb.1 hs
  have hf : nan 2 m = false ∧ inff 2 m = false := ⟨fin_nan h.1, fin_inf h.1⟩
  unfold wholef tointS
  rw [hf.1, hf.2]
  simp only [Bool.or_false, Bool.false_eq_true, if_false]
  generalize (unitsW 0 (sg 2 m) (xp 2 m) (sig 2 m)).1 = z at *
  generalize (unitsW 0 (sg 2 m) (xp 2 m) (sig 2 m)).2 = y at *
  have hz : z ≤ 2 ^ 30 + 1 ∧ -1 ≤ z := by
    have hnn : 0 ≤ sig 2 m * 2 ^ (xp 2 m + 149).toNat := Int.mul_nonneg sb.1 (by have := p2_pos (xp 2 m + 149).toNat; omega)
    constructor
    · apply Int.le_of_not_gt; intro k
      have := Int.mul_le_mul_of_nonneg_right (show (2 : Int) ^ 30 + 2 ≤ z by omega) (Int.le_of_lt P)
      rw [Int.add_mul] at this; omega
    · apply Int.le_of_not_gt; intro k
      have := Int.mul_le_mul_of_nonneg_right (show z ≤ -2 by omega) (Int.le_of_lt P)
      omega
  have c30 : (2 : Int) ^ 30 = 1073741824 := rfl
  rw [c30] at hz
  have wz : ∀ t : Int, -1073741826 ≤ t → t ≤ 1073741826 → IntKind.wrap .i32 t = t := fun t t1 t2 => wi32 (by omega)
  rw [hv]
  unfold sv
  cases hs2 : sg 2 m
  · simp only [Bool.false_eq_true, if_false]
    rw [wz z (by omega) (by omega), if_pos rfl]; exact un
  · simp only [if_true]
    rw [wz (-z) (by omega) (by omega), if_pos rfl]
    show -(2 ^ 149) ≤ 2 * (-z * 2 ^ 149 - -(sig 2 m * 2 ^ (xp 2 m + 149).toNat)) ∧ 2 * (-z * 2 ^ 149 - -(sig 2 m * 2 ^ (xp 2 m + 149).toNat)) ≤ 2 ^ 149
    rw [Int.neg_mul]; omega
theorem wholef_ab {k : Nat} (hk : k ≤ 29) {m : Int} (h : ab k m) : -(2 ^ (k + 1)) ≤ wholef m ∧ wholef m ≤ 2 ^ (k + 1) := by
  have P : (0 : Int) < 2 ^ 149 := p2_pos 149
  have n := wholef_near (ab_mono (show k ≤ 30 by omega) h)
  have h1 := h.2.1
  have h2 := h.2.2
  have pk := p2_pos k
  rw [p2_succ]
  constructor
  · apply Int.le_of_not_gt; intro q
    have := Int.mul_le_mul_of_nonneg_right (show wholef m ≤ -(2 * 2 ^ k) - 1 by omega) (Int.le_of_lt P)
    rw [Int.sub_mul, Int.neg_mul, Int.mul_assoc] at this
    have := Int.mul_le_mul_of_nonneg_right (show (1 : Int) ≤ 2 ^ k by omega) (Int.le_of_lt P)
    omega
  · apply Int.le_of_not_gt; intro q
    have := Int.mul_le_mul_of_nonneg_right (show 2 * 2 ^ k + 1 ≤ wholef m by omega) (Int.le_of_lt P)
    rw [Int.add_mul, Int.mul_assoc] at this
    have := Int.mul_le_mul_of_nonneg_right (show (1 : Int) ≤ 2 ^ k by omega) (Int.le_of_lt P)
    omega
theorem pk_sticky (n : Bool) (e : Int) {X : Int} (hX : 16777216 ≤ X) : pk 2 0 n e X true = pk 2 0 n (e - 1) (2 * X + 1) false := by
  have h := pk_coarse 2 0 n (e - 1) (2 * X + 1) 1 false (by rw [show BB 2 = 8388608 from rfl, show (2 : Int) ^ 1 = 2 from rfl]; omega)
  rw [show (2 : Int) ^ 1 = 2 from rfl, show (2 * X + 1) / 2 = X by omega, show (2 * X + 1) % 2 = 1 by omega, show e - 1 + ((1 : Nat) : Int) = e by omega] at h
  exact h
theorem pk_even (n : Bool) (e : Int) {X : Int} (hX : 16777216 ≤ X) : pk 2 0 n e X false = pk 2 0 n (e - 1) (2 * X) false := by
  have h := pk_coarse 2 0 n (e - 1) (2 * X) 1 false (by rw [show BB 2 = 8388608 from rfl, show (2 : Int) ^ 1 = 2 from rfl]; omega)
  rw [show (2 : Int) ^ 1 = 2 from rfl, show (2 * X) / 2 = X by omega, show (2 * X) % 2 = 0 by omega, show e - 1 + ((1 : Nat) : Int) = e by omega] at h
  exact h
theorem div_mag {a b : Int} (fa : fnt a) (fb : fnt b) (za : zr 2 a = false) (zb : zr 2 b = false) (he : -290 ≤ xp 2 a - (61 - lg (sig 2 a)) - xp 2 b) :
    ∃ M : Int, 0 ≤ M ∧ M ≤ 2139095040 ∧ divf a b = sgn 2 (!(sg 2 a == sg 2 b)) + M
      ∧ (∀ c, 0 ≤ c → c < 2139095040 → mv a * 2 ^ 149 ≤ mv c * mv b → M ≤ c)
      ∧ (∀ c, 0 ≤ c → c < 2139095040 → mv c * mv b ≤ mv a * 2 ^ 149 → c ≤ M) := by
  have na := fin_nan fa
  have nb := fin_nan fb
  have ia := fin_inf fa
  have ib := fin_inf fb
  have sa : 0 < sig 2 a := by
    have := (sig_zero 2 a na ia).1
    have h0 := (sig_bd 2 a).1
    have h1 : sig 2 a ≠ 0 := fun k => by rw [this k] at za; cases za
    omega
  have sb : 0 < sig 2 b := by
    have := (sig_zero 2 b nb ib).1
    have h0 := (sig_bd 2 b).1
    have h1 : sig 2 b ≠ 0 := fun k => by rw [this k] at zb; cases zb
    omega
  have sa2 := (sig_bd 2 a).2
  have sb2 := (sig_bd 2 b).2
  rw [show BB 2 = 8388608 from rfl] at sa2 sb2
  have xa := xp_bd 2 a
  have xb := xp_bd 2 b
  have hd : divf a b = (pk 2 0 (!(sg 2 a == sg 2 b)) (xp 2 a - (61 - lg (sig 2 a)) - xp 2 b) (sig 2 a * 2 ^ (61 - lg (sig 2 a)) / sig 2 b) (decide (sig 2 a * 2 ^ (61 - lg (sig 2 a)) % sig 2 b ≠ 0))).1 := by
    unfold divf divS
    rw [na, nb, ia, ib, za, zb]
    rfl
  have xaL := Int.le_refl (mv a)
  have eA : mv a = sig 2 a * 2 ^ (xp 2 a + 149).toNat := rfl
  have eB : mv b = sig 2 b * 2 ^ (xp 2 b + 149).toNat := rfl
  have hxa : -149 ≤ xp 2 a := by omega
  have hxb : -149 ≤ xp 2 b := by omega
  have hlg : lg (sig 2 a) < 24 := lg_bd sa (by have : (2 : Int) ^ 24 = 16777216 := rfl; omega)
  have hlt := lg_le sa
  rw [hd]
  generalize (!(sg 2 a == sg 2 b)) = n
  generalize sig 2 a = A at *
  generalize sig 2 b = B at *
  generalize xp 2 a = x at *
  generalize xp 2 b = y at *
  obtain ⟨s, hs⟩ : ∃ s : Nat, s = 61 - lg A := ⟨_, rfl⟩
  have hsI : (61 - (lg A : Int)) = (s : Int) := by omega
  rw [hsI] at he ⊢
  rw [← hs]
  have ps := p2_pos s
  have hW : 2 ^ 61 ≤ A * 2 ^ s := by
    have := Int.mul_le_mul_of_nonneg_right hlt (Int.le_of_lt ps)
    rwa [← p2_add, show lg A + s = 61 by omega] at this
  have dm := Int.mul_ediv_add_emod (A * 2 ^ s) B
  have m0 := Int.emod_nonneg (A * 2 ^ s) (show B ≠ 0 by omega)
  have m1 := Int.emod_lt_of_pos (A * 2 ^ s) sb
  have hX : 2 ^ 37 ≤ A * 2 ^ s / B := by
    rw [Int.le_ediv_iff_mul_le sb]
    have c1 : (2 : Int) ^ 37 = 137438953472 := rfl
    have c2 : (2 : Int) ^ 61 = 2305843009213693952 := rfl
    omega
  generalize hq : A * 2 ^ s / B = X at *
  generalize hr : A * 2 ^ s % B = R at *
  have c37 : (2 : Int) ^ 37 = 137438953472 := rfl
  obtain ⟨t, ht0, hp⟩ : ∃ t : Int, (t = (if R = 0 then 0 else 1)) ∧ pk 2 0 n (x - s - y) X (decide (R ≠ 0)) = pk 2 0 n (x - s - y - 1) (2 * X + t) false := by
    by_cases k : R = 0
    · refine ⟨0, by rw [if_pos k], ?_⟩
      rw [show decide (R ≠ 0) = false by simp [k], pk_even n _ (by omega), Int.add_zero]
    · refine ⟨1, by rw [if_neg k], ?_⟩
      rw [show decide (R ≠ 0) = true by simp [k], pk_sticky n _ (by omega)]
  have htb : 0 ≤ t ∧ t ≤ 1 := by rw [ht0]; split <;> omega
  rw [hp]
  obtain ⟨M, M0, M1, hM, up, dn⟩ := rnd_mag n (e := x - s - y - 1) (N := 2 * X + t) (by omega) (by omega)
  refine ⟨M, M0, M1, hM, ?_, ?_⟩
  · intro c h0 h1 hc
    apply up c h0 h1
    obtain ⟨b1, b2, b3, b4, b5, b6⟩ := code_parts h0 h1
    rw [mv_up]
    have eC : mv c = sig 2 c * 2 ^ (xp 2 c + 149).toNat := rfl
    rw [eA, eB, eC] at hc
    generalize sig 2 c = S at *
    generalize xp 2 c = Y at *
    have p1 := p2_pos (x + 149).toNat
    have hc2 : (A * 2 ^ s) * 2 ^ (x - s - y + 298).toNat ≤ S * B * 2 ^ (Y + 298).toNat := by
      have k := Int.mul_le_mul_of_nonneg_right hc (show (0 : Int) ≤ 2 ^ 600 by have := p2_pos 600; omega)
      have e1 : A * 2 ^ (x + 149).toNat * 2 ^ 149 * 2 ^ 600 = (A * 2 ^ s) * 2 ^ (x - s - y + 298).toNat * 2 ^ (y + 600).toNat := by
        simp only [Int.mul_assoc]; congr 1
        rw [← p2_add, ← p2_add, ← p2_add, ← p2_add]; congr 1; omega
      have e2 : S * 2 ^ (Y + 149).toNat * (B * 2 ^ (y + 149).toNat) * 2 ^ 600 = S * B * 2 ^ (Y + 298).toNat * 2 ^ (y + 600).toNat := by
        rw [show S * 2 ^ (Y + 149).toNat * (B * 2 ^ (y + 149).toNat) * 2 ^ 600 = S * B * (2 ^ (Y + 149).toNat * (2 ^ (y + 149).toNat * 2 ^ 600)) by
          simp only [Int.mul_assoc, Int.mul_left_comm, Int.mul_comm]]
        rw [Int.mul_assoc (S * B)]; congr 1
        rw [← p2_add, ← p2_add, ← p2_add]; congr 1; omega
      rw [e1, e2] at k
      exact Int.le_of_mul_le_mul_right k (p2_pos _)
    have hY : x - s - y ≤ Y := by
      apply Int.le_of_not_gt; intro k
      obtain ⟨d, hd⟩ : ∃ d : Nat, (x - s - y + 298).toNat = d + (Y + 298).toNat := ⟨(x - s - y - Y).toNat, by omega⟩
      rw [hd, p2_add, ← Int.mul_assoc] at hc2
      have k1 := Int.le_of_mul_le_mul_right hc2 (p2_pos _)
      have k2 : A * 2 ^ s * 1 ≤ A * 2 ^ s * 2 ^ d := Int.mul_le_mul_of_nonneg_left (by have := p2_pos d; omega) (by have := p2_pos 61; omega)
      have k3 : S * B ≤ 16777216 * B := Int.mul_le_mul_of_nonneg_right (by omega) (by omega)
      have c2 : (2 : Int) ^ 61 = 2305843009213693952 := rfl
      omega
    obtain ⟨d, hd⟩ : ∃ d : Nat, (Y + 298).toNat = d + (x - s - y + 298).toNat := ⟨(Y - (x - s - y)).toNat, by omega⟩
    rw [hd, p2_add, ← Int.mul_assoc] at hc2
    have k1 := Int.le_of_mul_le_mul_right hc2 (p2_pos _)
    rw [show S * B * 2 ^ d = B * (S * 2 ^ d) by simp only [Int.mul_assoc, Int.mul_left_comm, Int.mul_comm], ← dm] at k1
    have k2 : X + t ≤ S * 2 ^ d := by
      apply Int.le_of_not_gt; intro k
      have : S * 2 ^ d + 1 ≤ X + t := k
      by_cases r0 : R = 0
      · rw [if_pos r0] at ht0
        have := Int.mul_le_mul_of_nonneg_left (show S * 2 ^ d + 1 ≤ X by omega) (show 0 ≤ B by omega)
        rw [Int.mul_add, Int.mul_one] at this; omega
      · rw [if_neg r0] at ht0
        have := Int.mul_le_mul_of_nonneg_left (show S * 2 ^ d ≤ X by omega) (show 0 ≤ B by omega)
        omega
    obtain ⟨z, hz⟩ : ∃ z : Nat, (x - s - y - 1 + 298).toNat = z := ⟨_, rfl⟩
    have hz2 : (x - s - y + 298).toNat = z + 1 := by omega
    rw [hd, hz, p2_add, hz2, p2_succ]
    have := Int.mul_le_mul_of_nonneg_right (show 2 * X + t ≤ 2 * (S * 2 ^ d) by omega) (Int.le_of_lt (p2_pos z))
    rw [show S * (2 ^ d * (2 * 2 ^ z)) = 2 * (S * 2 ^ d) * 2 ^ z by simp only [Int.mul_assoc, Int.mul_left_comm, Int.mul_comm]]
    exact this
  · intro c h0 h1 hc
    apply dn c h0 h1
    obtain ⟨b1, b2, b3, b4, b5, b6⟩ := code_parts h0 h1
    rw [mv_up]
    have eC : mv c = sig 2 c * 2 ^ (xp 2 c + 149).toNat := rfl
    rw [eA, eB, eC] at hc
    generalize sig 2 c = S at *
    generalize xp 2 c = Y at *
    have hc2 : S * B * 2 ^ (Y + 298).toNat ≤ (A * 2 ^ s) * 2 ^ (x - s - y + 298).toNat := by
      have k := Int.mul_le_mul_of_nonneg_right hc (show (0 : Int) ≤ 2 ^ 600 by have := p2_pos 600; omega)
      have e1 : A * 2 ^ (x + 149).toNat * 2 ^ 149 * 2 ^ 600 = (A * 2 ^ s) * 2 ^ (x - s - y + 298).toNat * 2 ^ (y + 600).toNat := by
        simp only [Int.mul_assoc]; congr 1
        rw [← p2_add, ← p2_add, ← p2_add, ← p2_add]; congr 1; omega
      have e2 : S * 2 ^ (Y + 149).toNat * (B * 2 ^ (y + 149).toNat) * 2 ^ 600 = S * B * 2 ^ (Y + 298).toNat * 2 ^ (y + 600).toNat := by
        rw [show S * 2 ^ (Y + 149).toNat * (B * 2 ^ (y + 149).toNat) * 2 ^ 600 = S * B * (2 ^ (Y + 149).toNat * (2 ^ (y + 149).toNat * 2 ^ 600)) by
          simp only [Int.mul_assoc, Int.mul_left_comm, Int.mul_comm]]
        rw [Int.mul_assoc (S * B)]; congr 1
        rw [← p2_add, ← p2_add, ← p2_add]; congr 1; omega
      rw [e1, e2] at k
      exact Int.le_of_mul_le_mul_right k (p2_pos _)
    obtain ⟨z, hz⟩ : ∃ z : Nat, (x - s - y - 1 + 298).toNat = z := ⟨_, rfl⟩
    have hz2 : (x - s - y + 298).toNat = z + 1 := by omega
    rw [hz]
    by_cases hY : x - s - y ≤ Y
    · obtain ⟨d, hd⟩ : ∃ d : Nat, (Y + 298).toNat = d + (x - s - y + 298).toNat := ⟨(Y - (x - s - y)).toNat, by omega⟩
      rw [hd, p2_add, ← Int.mul_assoc] at hc2
      have k1 := Int.le_of_mul_le_mul_right hc2 (p2_pos _)
      rw [show S * B * 2 ^ d = B * (S * 2 ^ d) by simp only [Int.mul_assoc, Int.mul_left_comm, Int.mul_comm], ← dm] at k1
      have k2 : S * 2 ^ d ≤ X := by
        apply Int.le_of_not_gt; intro k
        have := Int.mul_le_mul_of_nonneg_left (show X + 1 ≤ S * 2 ^ d by omega) (show 0 ≤ B by omega)
        rw [Int.mul_add, Int.mul_one] at this; omega
      rw [hd, p2_add, hz2, p2_succ]
      rw [show S * (2 ^ d * (2 * 2 ^ z)) = 2 * (S * 2 ^ d) * 2 ^ z by simp only [Int.mul_assoc, Int.mul_left_comm, Int.mul_comm]]
      exact Int.mul_le_mul_of_nonneg_right (by omega) (Int.le_of_lt (p2_pos z))
    · obtain ⟨d, hd⟩ : ∃ d : Nat, z = d + (Y + 298).toNat := ⟨(x - s - y - 1 - Y).toNat, by omega⟩
      rw [hd, p2_add, ← Int.mul_assoc]
      apply Int.mul_le_mul_of_nonneg_right _ (Int.le_of_lt (p2_pos _))
      have : (2 * X + t) * 1 ≤ (2 * X + t) * 2 ^ d := Int.mul_le_mul_of_nonneg_left (by have := p2_pos d; omega) (by omega)
      omega
theorem code_of {k : Int} {e : Nat} (h0 : 0 < k) (h1 : k < 16777216) (he : 23 ≤ e ∧ e ≤ 200) : ∃ c, 0 ≤ c ∧ c < 2139095040 ∧ mv c = k * 2 ^ e := by
  obtain ⟨c1, c2, c3, c4, c5, c6⟩ := cs2
  have hl : lg k < 24 := lg_bd h0 (by have : (2 : Int) ^ 24 = 16777216 := rfl; omega)
  have a := lg_le h0
  have b := lg_lt h0
  have p := p2_pos (23 - lg k)
  have l1 := Int.mul_le_mul_of_nonneg_right a (Int.le_of_lt p)
  rw [← p2_add, show lg k + (23 - lg k) = 23 by omega] at l1
  have l2 := Int.mul_lt_mul_of_pos_right b p
  rw [← p2_add, show lg k + 1 + (23 - lg k) = 24 by omega] at l2
  have c23 : (2 : Int) ^ 23 = 8388608 := rfl
  have c24 : (2 : Int) ^ 24 = 16777216 := rfl
  have hm : mv (((e : Int) + lg k - 22) * 8388608 + (k * 2 ^ (23 - lg k) - 8388608)) = k * 2 ^ e := by
    have e0 : (k * 2 ^ e) = k * 2 ^ (23 - lg k) * 2 ^ (e + lg k - 23) := by rw [Int.mul_assoc, ← p2_add]; congr 2; omega
    rw [e0]
    generalize k * 2 ^ (23 - lg k) = S at *
    unfold mv xp sig ex ff
    rw [c1, c2, c3, c6]
    have e1 : (((e : Int) + lg k - 22) * 8388608 + (S - 8388608)) / 8388608 % 256 = (e : Int) + lg k - 22 := by omega
    have e2 : (((e : Int) + lg k - 22) * 8388608 + (S - 8388608)) % 8388608 = S - 8388608 := by omega
    rw [e1, e2, if_neg (by omega), if_neg (by omega)]
    rw [show S - 8388608 + 8388608 = S by omega]
    congr 2; omega
  exact ⟨_, by omega, by omega, hm⟩
theorem code_fnt {c : Int} (h0 : 0 ≤ c) (h1 : c < 2139095040) : fnt c ∧ vz c = mv c := ⟨⟨⟨h0, by omega⟩, by omega⟩, vz_pos ⟨h0, by omega⟩ (by omega)⟩
theorem mv_zero : mv 0 = 0 := by decide
theorem mv_lt {a b : Int} (h0 : 0 ≤ a) (h : a < b) (h1 : b < 2139095040) : mv a < mv b := by
  obtain ⟨a1, a2, a3, a4, a5, a6⟩ := code_parts h0 (by omega : a < 2139095040)
  obtain ⟨b1, b2, b3, b4, b5, b6⟩ := code_parts (by omega : 0 ≤ b) h1
  unfold mv
  generalize sig 2 a = S at *
  generalize sig 2 b = R at *
  generalize xp 2 a = x at *
  generalize xp 2 b = y at *
  have px := p2_pos (x + 149).toNat
  by_cases k : x = y
  · subst k
    exact Int.mul_lt_mul_of_pos_right (by omega) px
  · obtain ⟨d, hd⟩ : ∃ d : Nat, (y + 149).toNat = (d + 1) + (x + 149).toNat := ⟨(y - x - 1).toNat, by omega⟩
    rw [hd, p2_add, ← Int.mul_assoc]
    apply Int.mul_lt_mul_of_pos_right _ px
    rw [p2_succ]
    have := Int.mul_le_mul_of_nonneg_left (show (1 : Int) ≤ 2 ^ d by have := p2_pos d; omega) (show 0 ≤ 2 * R by omega)
    rw [show R * (2 * 2 ^ d) = 2 * R * 2 ^ d by simp only [Int.mul_assoc, Int.mul_left_comm, Int.mul_comm]]
    omega
theorem mv_code_le {a b : Int} (h0 : 0 ≤ a) (h1 : b < 2139095040) (hb : 0 ≤ b) (h2 : a < 2139095040) (h : mv a ≤ mv b) : a ≤ b := by
  apply Int.le_of_not_gt; intro k
  have := mv_lt hb k h2; omega
theorem int_exact {n : Int} (h : -16777216 < n ∧ n < 16777216) : fnt (intf n) ∧ vz (intf n) = n * 2 ^ 149 := by
  have P : (0 : Int) < 2 ^ 149 := p2_pos 149
  have hx : ∃ c, fnt c ∧ vz c = n * 2 ^ 149 := by
    by_cases h0 : n = 0
    · subst h0; exact ⟨0, (code_fnt (by decide) (by decide)).1, by decide⟩
    by_cases h1 : 0 < n
    · obtain ⟨c, a, b, e⟩ := code_of (k := n) (e := 149) h1 h.2 (by decide)
      exact ⟨c, (code_fnt a b).1, by rw [(code_fnt a b).2, e]⟩
    · obtain ⟨c, a, b, e⟩ := code_of (k := -n) (e := 149) (by omega) (by omega) (by decide)
      have t := turn_fin (code_fnt a b).1
      refine ⟨_, t.1, ?_⟩
      rw [t.2, (code_fnt a b).2, e, Int.neg_mul, Int.neg_neg]
  obtain ⟨c, fc, vc⟩ := hx
  have e : sv (decide (n < 0)) ((if n < 0 then -n else n) * 2 ^ ((0 : Int) + 298).toNat) = n * 2 ^ 298 := by
    unfold sv
    by_cases c : n < 0
    · rw [if_pos (decide_eq_true c), if_pos c, Int.neg_mul, Int.neg_neg]; rfl
    · rw [if_neg (by simp [c]), if_neg c]; rfl
  have e2 : n * 2 ^ 149 * 2 ^ 149 = n * 2 ^ 298 := by rw [Int.mul_assoc, ← p2_add]
  have := pk_in (decide (n < 0)) (N := if n < 0 then -n else n) (e := 0) (by split <;> omega) (by decide) fc fc
    (by rw [e, vc, e2]; exact Int.le_refl _) (by rw [e, vc, e2]; exact Int.le_refl _)
  rw [vc] at this
  exact ⟨this.1, Int.le_antisymm this.2.2 this.2.1⟩
theorem fnt_lit {s : Int} (h : (decide (0 ≤ s) && (decide (s < 4294967296) && decide (s % 2147483648 < 2139095040))) = true) : fnt s := by
  simp only [Bool.and_eq_true, decide_eq_true_eq] at h
  exact ⟨⟨h.1, h.2.1⟩, h.2.2⟩
theorem st_in {p r c : Int} (A B lo hi : Int) (fp : fnt p) (fr : fnt r) (fc : fnt c) (fl : fnt lo) (fh : fnt hi)
    (hA : -A ≤ vz p ∧ vz p ≤ A) (hB : -B ≤ vz r ∧ vz r ≤ B) (h1 : vz lo * 2 ^ 149 + A * B ≤ vz c * 2 ^ 149) (h2 : vz c * 2 ^ 149 + A * B ≤ vz hi * 2 ^ 149) :
    fnt (fma p r c) ∧ vz lo ≤ vz (fma p r c) ∧ vz (fma p r c) ≤ vz hi := by
  have k := abs_mul hA hB
  exact fma_in fp fr fc fl fh (by omega) (by omega)
theorem expR_un (x : Int) : expR x = fma (turnS 2 (intf (wholef (mulf x 1069066811)))) 901758606 (fma (turnS 2 (intf (wholef (mulf x 1069066811)))) 1060205056 x) := rfl
theorem vz_L : vz 1069066811 = 12102203 * 2 ^ 126 ∧ vz 1060205056 = 11629056 * 2 ^ 125 ∧ vz 901758606 = 12566158 * 2 ^ 106 := by decide +kernel
theorem code8 {k : Int} (h : -10000 ≤ k ∧ k ≤ 10000) : ∃ c, fnt c ∧ vz c = k * 2 ^ 146 := by
  by_cases h0 : k = 0
  · subst h0; exact ⟨0, (code_fnt (by decide) (by decide)).1, by decide⟩
  by_cases h1 : 0 < k
  · obtain ⟨c, a, b, e⟩ := code_of (k := k) (e := 146) h1 (by omega) (by decide)
    exact ⟨c, (code_fnt a b).1, by rw [(code_fnt a b).2, e]⟩
  · obtain ⟨c, a, b, e⟩ := code_of (k := -k) (e := 146) (by omega) (by omega) (by decide)
    have t := turn_fin (code_fnt a b).1
    refine ⟨_, t.1, ?_⟩
    rw [t.2, (code_fnt a b).2, e, Int.neg_mul, Int.neg_neg]
theorem expN {x : Int} (h : ab 7 x) : ∃ n : Int, wholef (mulf x 1069066811) = n ∧ -186 ≤ n ∧ n ≤ 186
    ∧ -(5 * 2 ^ 298) ≤ 8 * (vz x * vz 1069066811 - n * 2 ^ 298) ∧ 8 * (vz x * vz 1069066811 - n * 2 ^ 298) ≤ 5 * 2 ^ 298
    ∧ (vz x ≤ 0 → n ≤ 0) ∧ (0 ≤ vz x → 0 ≤ n) := by
  have fL : fnt 1069066811 := fnt_lit (by decide)
  have hm : ab 8 (mulf x 1069066811) := ab_mul (i := 7) (j := 1) (by decide) (by decide) h (ab_lit (by decide +kernel))
  have near := wholef_near (ab_mono (show 8 ≤ 30 by decide) hm)
  have wb := wholef_ab (by decide) hm
  obtain ⟨f1, v1, f2, v2⟩ := pw_fin (show 8 ≤ 127 by decide)
  have kb := ab_prod (i := 7) (j := 1) (m := 8) (by decide) h (ab_lit (k := 1) (s := 1069066811) (by decide +kernel))
  generalize hn : wholef (mulf x 1069066811) = n at *
  have c9 : (2 : Int) ^ (8 + 1) = 512 := rfl
  rw [c9] at wb
  have c149 : (2 : Int) ^ 149 = 8 * 2 ^ 146 := rfl
  have p146 : (0 : Int) < 2 ^ 146 := p2_pos 146
  have c298 : (2 : Int) ^ 298 = 8 * 2 ^ 146 * (2 ^ 149) := by decide +kernel
  have up : 8 * (vz x * vz 1069066811 - n * 2 ^ 298) ≤ 5 * 2 ^ 298 := by
    apply Int.le_of_not_gt; intro k
    obtain ⟨c, fc, vc⟩ := code8 (k := 8 * n + 5) (by omega)
    have := mulf_in h.1 fL fc f1 (by
      rw [vc]
      have e : (8 * n + 5) * 2 ^ 146 * 2 ^ 149 = (8 * n + 5) * (2 ^ 146 * 2 ^ 149) := by rw [Int.mul_assoc]
      rw [e]
      have e2 : (2 : Int) ^ 298 = 8 * (2 ^ 146 * 2 ^ 149) := by decide +kernel
      generalize (2 : Int) ^ 146 * 2 ^ 149 = Q at *
      rw [e2] at k
      generalize vz x * vz 1069066811 = W at *
      rw [Int.add_mul, Int.mul_assoc]
      have : n * (8 * Q) = 8 * (n * Q) := by rw [Int.mul_left_comm]
      omega) (by rw [v1]; exact kb.2)
    have k2 := this.2.1
    rw [vc] at k2
    rw [c149] at near
    generalize (2 : Int) ^ 146 = Q at *
    have e3 : n * (8 * Q) = 8 * (n * Q) := by rw [Int.mul_left_comm]
    rw [Int.add_mul, Int.mul_assoc] at k2
    omega
  have dn : -(5 * 2 ^ 298) ≤ 8 * (vz x * vz 1069066811 - n * 2 ^ 298) := by
    apply Int.le_of_not_gt; intro k
    obtain ⟨c, fc, vc⟩ := code8 (k := 8 * n - 5) (by omega)
    have := mulf_in h.1 fL f2 fc (by rw [v2, Int.neg_mul]; exact kb.1) (by
      rw [vc]
      have e : (8 * n - 5) * 2 ^ 146 * 2 ^ 149 = (8 * n - 5) * (2 ^ 146 * 2 ^ 149) := by rw [Int.mul_assoc]
      rw [e]
      have e2 : (2 : Int) ^ 298 = 8 * (2 ^ 146 * 2 ^ 149) := by decide +kernel
      generalize (2 : Int) ^ 146 * 2 ^ 149 = Q at *
      rw [e2] at k
      generalize vz x * vz 1069066811 = W at *
      rw [Int.sub_mul, Int.mul_assoc]
      have : n * (8 * Q) = 8 * (n * Q) := by rw [Int.mul_left_comm]
      omega)
    have k2 := this.2.2
    rw [vc] at k2
    rw [c149] at near
    generalize (2 : Int) ^ 146 = Q at *
    have e3 : n * (8 * Q) = 8 * (n * Q) := by rw [Int.mul_left_comm]
    rw [Int.sub_mul, Int.mul_assoc] at k2
    omega
  have hx1 := h.2.1
  have hx2 := h.2.2
  have f0 : fnt 0 := fnt_lit (by decide)
  have v0 : vz 0 = 0 := by decide
  refine ⟨n, rfl, ?_, ?_, dn, up, ?_, ?_⟩
  · rw [vz_L.1] at dn up
    have e1 : (2 : Int) ^ 7 * 2 ^ 149 = 2 ^ 156 := rfl
    rw [e1] at hx1 hx2
    omega
  · rw [vz_L.1] at dn up
    have e1 : (2 : Int) ^ 7 * 2 ^ 149 = 2 ^ 156 := rfl
    rw [e1] at hx1 hx2
    omega
  · intro hs
    have hL : (0 : Int) ≤ vz 1069066811 := by rw [vz_L.1]; decide +kernel
    have hp : vz x * vz 1069066811 ≤ 0 := by
      have := Int.mul_le_mul_of_nonneg_right hs hL; rwa [Int.zero_mul] at this
    have := mulf_in h.1 fL f2 f0 (by rw [v2, Int.neg_mul]; exact kb.1) (by rw [v0, Int.zero_mul]; exact hp)
    rw [v0] at this
    have k2 := this.2.2
    rw [c149] at near
    apply Int.le_of_not_gt; intro k
    have := Int.mul_le_mul_of_nonneg_right (show 1 ≤ n by omega) (show (0 : Int) ≤ 8 * 2 ^ 146 by omega)
    omega
  · intro hs
    have hL : (0 : Int) ≤ vz 1069066811 := by rw [vz_L.1]; decide +kernel
    have hp : 0 ≤ vz x * vz 1069066811 := Int.mul_nonneg hs hL
    have := mulf_in h.1 fL f0 f1 (by rw [v0, Int.zero_mul]; exact hp) (by rw [v1]; exact kb.2)
    rw [v0] at this
    have k2 := this.2.1
    rw [c149] at near
    apply Int.le_of_not_gt; intro k
    have := Int.mul_le_mul_of_nonneg_right (show n ≤ -1 by omega) (show (0 : Int) ≤ 8 * 2 ^ 146 by omega)
    omega
theorem expR_in {x n : Int} (h : ab 7 x) (hn : wholef (mulf x 1069066811) = n) (n1 : -186 ≤ n) (n2 : n ≤ 186)
    (d1 : -(5 * 2 ^ 298) ≤ 8 * (vz x * vz 1069066811 - n * 2 ^ 298)) (d2 : 8 * (vz x * vz 1069066811 - n * 2 ^ 298) ≤ 5 * 2 ^ 298) :
    fnt (expR x) ∧ -(15 * 2 ^ 144) ≤ vz (expR x) ∧ vz (expR x) ≤ 15 * 2 ^ 144 ∧ (n = 0 → vz (expR x) = vz x) := by
  obtain ⟨vL, vH, vl⟩ := vz_L
  have ⟨fi, vi⟩ := int_exact (n := n) (by omega)
  have ⟨fk, vk⟩ := turn_fin fi
  rw [vi] at vk
  have fH : fnt 1060205056 := fnt_lit (by decide)
  have fl : fnt 901758606 := fnt_lit (by decide)
  have fa1 : fnt 1054867456 := fnt_lit (by decide)
  have va1 : vz 1054867456 = 7 * 2 ^ 145 := by decide +kernel
  have ⟨fa2, va2⟩ := turn_fin fa1
  have fb1 : fnt 1055916032 := fnt_lit (by decide)
  have vb1 : vz 1055916032 = 15 * 2 ^ 144 := by decide +kernel
  have ⟨fb2, vb2⟩ := turn_fin fb1
  rw [vL] at d1 d2
  have hx1 := h.2.1
  have hx2 := h.2.2
  have c156 : (2 : Int) ^ 7 * 2 ^ 149 = 2 ^ 156 := rfl
  rw [c156] at hx1 hx2
  rw [expR_un, hn]
  have A := fma_in fk fH h.1 fa2 fa1 (by rw [va2, va1, vk, vH]; omega) (by rw [va1, vk, vH]; omega)
  have A0 : n = 0 → vz (fma (turnS 2 (intf n)) 1060205056 x) = vz x := by
    intro h0
    have := fma_in fk fH h.1 h.1 h.1 (by rw [vk, h0]; simp) (by rw [vk, h0]; simp)
    exact Int.le_antisymm this.2.2 this.2.1
  generalize fma (turnS 2 (intf n)) 1060205056 x = a at *
  obtain ⟨fA, A1, A2⟩ := A
  rw [va2, va1] at A1
  rw [va1] at A2
  have B := fma_in fk fl fA fb2 fb1 (by rw [vb2, vb1, vk, vl]; omega) (by rw [vb1, vk, vl]; omega)
  rw [vb2, vb1] at B
  refine ⟨B.1, B.2.1, B.2.2, fun h0 => ?_⟩
  rw [← A0 h0]
  have := fma_in fk fl fA fA fA (by rw [vk, h0]; simp) (by rw [vk, h0]; simp)
  exact Int.le_antisymm this.2.2 this.2.1
theorem exp_poly {r : Int} (fr : fnt r) (r1 : -(15 * 2 ^ 144) ≤ vz r) (r2 : vz r ≤ 15 * 2 ^ 144) :
    ∃ P, polyS r 985008993 [1007192201, 1026206379, 1042983595, 1056964608, 1065353216, 1065353216] = P ∧ fnt P ∧ 2 ^ 148 ≤ vz P ∧ vz P ≤ 2 ^ 150
      ∧ (0 ≤ vz r → 2 ^ 149 ≤ vz P) ∧ (vz r ≤ 0 → vz P ≤ 2 ^ 149) := by
  have e0 : polyS r 985008993 [1007192201, 1026206379, 1042983595, 1056964608, 1065353216, 1065353216] = fma (fma (fma (fma (fma (fma 985008993 r 1007192201) r 1026206379) r 1042983595) r 1056964608) r 1065353216) r 1065353216 := rfl
  have v0 : vz 0 = 0 := by decide
  have vA : vz 1015021568 = 2 ^ 143 := by decide +kernel
  have vB : vz 1031798784 = 2 ^ 145 := by decide +kernel
  have vC : vz 1048576000 = 2 ^ 147 := by decide +kernel
  have vD : vz 1052770304 = 3 * 2 ^ 146 := by decide +kernel
  have vE : vz 1059061760 = 5 * 2 ^ 146 := by decide +kernel
  have vH : vz 1056964608 = 2 ^ 148 := by decide +kernel
  have vO : vz 1065353216 = 2 ^ 149 := by decide +kernel
  have vT : vz 1073741824 = 2 ^ 150 := by decide +kernel
  have vF : vz 1069547520 = 3 * 2 ^ 148 := by decide +kernel
  have q1 := st_in (p := 985008993) (r := r) (c := 1007192201) (2 ^ 140) (15 * 2 ^ 144) 0 1015021568 (fnt_lit (by decide)) fr (fnt_lit (by decide)) (fnt_lit (by decide)) (fnt_lit (by decide)) (by decide +kernel) ⟨r1, r2⟩ (by decide +kernel) (by decide +kernel)
  rw [v0, vA] at q1
  generalize fma 985008993 r 1007192201 = p1 at *
  have q2 := st_in (p := p1) (r := r) (c := 1026206379) (2 ^ 143) (15 * 2 ^ 144) 0 1031798784 q1.1 fr (fnt_lit (by decide)) (fnt_lit (by decide)) (fnt_lit (by decide)) ⟨by omega, by omega⟩ ⟨r1, r2⟩ (by decide +kernel) (by decide +kernel)
  rw [v0, vB] at q2
  generalize fma p1 r 1026206379 = p2 at *
  have q3 := st_in (p := p2) (r := r) (c := 1042983595) (2 ^ 145) (15 * 2 ^ 144) 0 1048576000 q2.1 fr (fnt_lit (by decide)) (fnt_lit (by decide)) (fnt_lit (by decide)) ⟨by omega, by omega⟩ ⟨r1, r2⟩ (by decide +kernel) (by decide +kernel)
  rw [v0, vC] at q3
  generalize fma p2 r 1042983595 = p3 at *
  have q4 := st_in (p := p3) (r := r) (c := 1056964608) (2 ^ 147) (15 * 2 ^ 144) 1052770304 1059061760 q3.1 fr (fnt_lit (by decide)) (fnt_lit (by decide)) (fnt_lit (by decide)) ⟨by omega, by omega⟩ ⟨r1, r2⟩ (by decide +kernel) (by decide +kernel)
  rw [vD, vE] at q4
  generalize fma p3 r 1056964608 = p4 at *
  have k4 := abs_mul (show -(5 * 2 ^ 146) ≤ vz p4 ∧ vz p4 ≤ 5 * 2 ^ 146 by omega) ⟨r1, r2⟩
  have fO : fnt 1065353216 := fnt_lit (by decide)
  have fH : fnt 1056964608 := fnt_lit (by decide)
  have fF : fnt 1069547520 := fnt_lit (by decide)
  have fT : fnt 1073741824 := fnt_lit (by decide)
  rw [e0]
  by_cases hs : 0 ≤ vz r
  · have n4 : 0 ≤ vz p4 * vz r := Int.mul_nonneg (by omega) hs
    have q5 := fma_in q4.1 fr fO fO fF (by rw [vO]; omega) (by rw [vO, vF]; omega)
    rw [vO, vF] at q5
    generalize fma p4 r 1065353216 = p5 at *
    have k5 := abs_mul (show -(3 * 2 ^ 148) ≤ vz p5 ∧ vz p5 ≤ 3 * 2 ^ 148 by omega) ⟨r1, r2⟩
    have n5 : 0 ≤ vz p5 * vz r := Int.mul_nonneg (by omega) hs
    have q6 := fma_in q5.1 fr fO fO fT (by rw [vO]; omega) (by rw [vO, vT]; omega)
    rw [vO, vT] at q6
    refine ⟨_, rfl, q6.1, by omega, q6.2.2, fun _ => q6.2.1, fun h0 => ?_⟩
    have hr0 : vz r = 0 := by omega
    have := fma_in q5.1 fr fO fO fO (by rw [hr0]; simp) (by rw [hr0]; simp)
    rw [vO] at this; exact this.2.2
  · have n4 : vz p4 * vz r ≤ 0 := by
      have := Int.mul_le_mul_of_nonneg_left (show vz r ≤ 0 by omega) (show 0 ≤ vz p4 by omega); rwa [Int.mul_zero] at this
    have q5 := fma_in q4.1 fr fO fH fO (by rw [vO, vH]; omega) (by rw [vO]; omega)
    rw [vO, vH] at q5
    generalize fma p4 r 1065353216 = p5 at *
    have k5 := abs_mul (show -(2 ^ 149) ≤ vz p5 ∧ vz p5 ≤ 2 ^ 149 by omega) ⟨r1, r2⟩
    have n5 : vz p5 * vz r ≤ 0 := by
      have := Int.mul_le_mul_of_nonneg_left (show vz r ≤ 0 by omega) (show 0 ≤ vz p5 by omega); rwa [Int.mul_zero] at this
    have q6 := fma_in q5.1 fr fO fH fO (by rw [vO, vH]; omega) (by rw [vO]; omega)
    rw [vO, vH] at q6
    exact ⟨_, rfl, q6.1, q6.2.1, by omega, fun h0 => absurd h0 hs, fun _ => q6.2.2⟩
theorem gap {c : Int} (h0 : 0 ≤ c) (h1 : c + 1 < 2139095040) : (mv (c + 1) - mv c) * 8388608 ≤ mv c + 8388608 := by
  obtain ⟨a1, a2, a3, a4, a5, a6⟩ := code_parts h0 (by omega : c < 2139095040)
  obtain ⟨b1, b2, b3, b4, b5, b6⟩ := code_parts (by omega : 0 ≤ c + 1) h1
  unfold mv
  generalize sig 2 c = S at *
  generalize sig 2 (c + 1) = R at *
  generalize xp 2 c = x at *
  generalize xp 2 (c + 1) = y at *
  have p := p2_pos (x + 149).toNat
  have hc : (y = x ∧ R = S + 1) ∨ (y = x + 1 ∧ S = 16777215 ∧ R = 8388608) := by omega
  have main : (R * 2 ^ (y + 149).toNat) = (S + 1) * 2 ^ (x + 149).toNat := by
    rcases hc with ⟨rfl, rfl⟩ | ⟨rfl, rfl, rfl⟩
    · rfl
    · rw [show (x + 1 + 149).toNat = (x + 149).toNat + 1 by omega, p2_succ]; omega
  rw [main, Int.add_mul, Int.one_mul]
  by_cases k : x = -149
  · subst k
    rw [show ((-149 : Int) + 149).toNat = 0 from rfl, show (2 : Int) ^ 0 = 1 from rfl]; omega
  · have : 8388608 ≤ S := by omega
    have := Int.mul_le_mul_of_nonneg_right this (Int.le_of_lt p)
    omega
theorem mag_near {M num den : Int} (hd : 0 < den) (hn : 0 ≤ num) (m0 : 0 ≤ M) (m1 : M + 1 < 2139095040)
    (up : ∀ c, 0 ≤ c → c < 2139095040 → num ≤ mv c * den → M ≤ c) (dn : ∀ c, 0 ≤ c → c < 2139095040 → mv c * den ≤ num → c ≤ M) :
    -(num + 8388608 * den) ≤ (mv M * den - num) * 8388608 ∧ (mv M * den - num) * 8388608 ≤ num + 8388608 * den := by
  have mM := mv_nn M
  by_cases k : mv M * den ≤ num
  · have h2 : num < mv (M + 1) * den := by
      apply Int.lt_of_not_ge; intro q
      have := dn (M + 1) (by omega) m1 q; omega
    have g := gap m0 m1
    have g2 := Int.mul_le_mul_of_nonneg_right g (Int.le_of_lt hd)
    rw [Int.mul_right_comm, Int.sub_mul, Int.add_mul] at g2
    omega
  · have hM : M ≠ 0 := by
      intro e; subst e; rw [mv_zero, Int.zero_mul] at k; omega
    have h2 : mv (M - 1) * den < num := by
      apply Int.lt_of_not_ge; intro q
      have := up (M - 1) (by omega) (by omega) q; omega
    have g := gap (c := M - 1) (by omega) (by omega)
    rw [show M - 1 + 1 = M by omega] at g
    have g2 := Int.mul_le_mul_of_nonneg_right g (Int.le_of_lt hd)
    rw [Int.mul_right_comm, Int.sub_mul, Int.add_mul] at g2
    omega
theorem mag_fin {M num den : Int} (hb : num ≤ mv 2139095038 * den) (up : ∀ c, 0 ≤ c → c < 2139095040 → num ≤ mv c * den → M ≤ c) : M + 1 < 2139095040 := by
  have := up 2139095038 (by decide) (by decide) hb; omega
def nr (v W den : Int) : Prop := ∃ A : Int, (A = W ∨ A = -W) ∧ 0 ≤ A ∧ -(A + 8388608 * den) ≤ (v * den - W) * 8388608 ∧ (v * den - W) * 8388608 ≤ A + 8388608 * den
theorem pk_nr (n : Bool) {e N : Int} (hN : 0 ≤ N) (he : -298 ≤ e) (hb : N * 2 ^ (e + 298).toNat ≤ mv 2139095038 * 2 ^ 149) :
    fnt (pk 2 0 n e N false).1 ∧ nr (vz (pk 2 0 n e N false).1) (sv n (N * 2 ^ (e + 298).toNat)) (2 ^ 149) := by
  have P : (0 : Int) < 2 ^ 149 := p2_pos 149
  by_cases h0 : N = 0
  · subst h0
    have hz : (pk 2 0 n e 0 false).1 = sgn 2 n := by unfold pk; rw [if_pos ⟨rfl, rfl⟩]
    have hs : sv n (0 * 2 ^ (e + 298).toNat) = 0 := by unfold sv; cases n <;> simp
    have v0 : vz (sgn 2 n) = 0 := by cases n <;> decide
    rw [hz, hs, v0]
    refine ⟨⟨by cases n <;> exact ⟨by decide, by decide⟩, by cases n <;> decide⟩, 0, Or.inl rfl, by omega, by omega, by omega⟩
  have hp : 0 < N := by omega
  have hW : 0 < N * 2 ^ (e + 298).toNat := Int.mul_pos hp (p2_pos _)
  obtain ⟨M, m0, m1, hM, hu, hl⟩ := rnd_mag n hp he
  have mf := mag_fin hb hu
  have near := mag_near P (Int.le_of_lt hW) m0 mf hu hl
  generalize N * 2 ^ (e + 298).toNat = W at *
  rw [hM]
  cases n
  · have e0 : sgn 2 false + M = M := by show 0 + M = M; omega
    rw [e0]
    obtain ⟨fM, vM⟩ := code_fnt m0 (show M < 2139095040 by omega)
    rw [vM]
    exact ⟨fM, W, Or.inl rfl, by omega, near.1, near.2⟩
  · have e0 : sgn 2 true + M = M + 2147483648 := by show 2147483648 + M = _; omega
    rw [e0]
    have w : w32 (M + 2147483648) := ⟨by omega, by omega⟩
    have vM := vz_neg w (by omega)
    rw [show M + 2147483648 - 2147483648 = M by omega] at vM
    rw [vM]
    refine ⟨⟨w, by omega⟩, W, Or.inr (by show W = -(-W); omega), by omega, ?_, ?_⟩
    · show _ ≤ (-mv M * 2 ^ 149 - -W) * 8388608
      rw [Int.neg_mul]; omega
    · show (-mv M * 2 ^ 149 - -W) * 8388608 ≤ _
      rw [Int.neg_mul]; omega
theorem tot_nr {T : Int} (h1 : -(mv 2139095038 * 2 ^ 149) ≤ T) (h2 : T ≤ mv 2139095038 * 2 ^ 149) : fnt (totS 2 0 T).1 ∧ nr (vz (totS 2 0 T).1) T (2 ^ 149) := by
  have P : (0 : Int) < 2 ^ 149 := p2_pos 149
  unfold totS
  by_cases h0 : T = 0
  · rw [if_pos h0, h0]
    exact ⟨fnt_lit (by decide), 0, Or.inl rfl, by omega, by decide, by decide⟩
  rw [if_neg h0]
  have e : ∀ x : Int, x * 2 ^ ((-298 : Int) + 298).toNat = x := fun x => by show x * 1 = x; omega
  have := pk_nr (decide (T < 0)) (e := -298) (N := if T < 0 then -T else T) (by split <;> omega) (by decide) (by rw [e]; split <;> omega)
  rw [e] at this
  have es : sv (decide (T < 0)) (if T < 0 then -T else T) = T := by
    unfold sv
    by_cases k : T < 0
    · rw [if_pos (decide_eq_true k), if_pos k]; omega
    · rw [if_neg (by simp [k]), if_neg k]
  rwa [es] at this
theorem sum_nr {n m : Bool} {e N d M : Int}
    (h1 : -(mv 2139095038 * 2 ^ 149) ≤ sv n (N * 2 ^ (e + 298).toNat) + sv m (M * 2 ^ (d + 298).toNat)) (h2 : sv n (N * 2 ^ (e + 298).toNat) + sv m (M * 2 ^ (d + 298).toNat) ≤ mv 2139095038 * 2 ^ 149) :
    fnt (sumS 2 0 n e N m d M).1 ∧ nr (vz (sumS 2 0 n e N m d M).1) (sv n (N * 2 ^ (e + 298).toNat) + sv m (M * 2 ^ (d + 298).toNat)) (2 ^ 149) := by
  have P : (0 : Int) < 2 ^ 149 := p2_pos 149
  unfold sumS
  split
  · rename_i k
    rw [k.1]
    have v0 : vz (sgn 2 n) = 0 := by cases n <;> decide
    show fnt (sgn 2 n) ∧ nr (vz (sgn 2 n)) 0 _
    rw [v0]
    exact ⟨⟨by cases n <;> exact ⟨by decide, by decide⟩, by cases n <;> decide⟩, 0, Or.inl rfl, by omega, by omega, by omega⟩
  · exact tot_nr h1 h2
theorem mulf_nr {a b : Int} (fa : fnt a) (fb : fnt b) (h1 : -(mv 2139095038 * 2 ^ 149) ≤ vz a * vz b) (h2 : vz a * vz b ≤ mv 2139095038 * 2 ^ 149) :
    fnt (mulf a b) ∧ nr (vz (mulf a b)) (vz a * vz b) (2 ^ 149) := by
  have xa := xp_bd 2 a
  have xb := xp_bd 2 b
  have e := svl_mul a b
  have hN : 0 ≤ sig 2 a * sig 2 b := Int.mul_nonneg (sig_bd 2 a).1 (sig_bd 2 b).1
  have k := pk_nr (!(sg 2 a == sg 2 b)) (e := xp 2 a + xp 2 b) (N := sig 2 a * sig 2 b) hN (by omega) (by
    rw [← e] at h1 h2
    generalize sig 2 a * sig 2 b * 2 ^ (xp 2 a + xp 2 b + 298).toNat = W at *
    unfold sv at h1 h2
    split at h1
    · rename_i c; rw [if_pos c] at h2; omega
    · rename_i c; rw [if_neg c] at h2; omega)
  rw [e] at k
  unfold mulf mulS
  rw [fin_nan fa, fin_nan fb, fin_inf fa, fin_inf fb]
  simp only [Bool.or_false, Bool.and_false, Bool.false_and, Bool.false_eq_true, if_false]
  exact k
theorem fma_nr {a b c : Int} (fa : fnt a) (fb : fnt b) (fc : fnt c) (h1 : -(mv 2139095038 * 2 ^ 149) ≤ vz a * vz b + vz c * 2 ^ 149) (h2 : vz a * vz b + vz c * 2 ^ 149 ≤ mv 2139095038 * 2 ^ 149) :
    fnt (fma a b c) ∧ nr (vz (fma a b c)) (vz a * vz b + vz c * 2 ^ 149) (2 ^ 149) := by
  rw [← svl_mul a b, ← svl_up c] at h1 h2 ⊢
  unfold fma fmaS
  rw [fin_nan fa, fin_nan fb, fin_nan fc, fin_inf fa, fin_inf fb, fin_inf fc]
  simp only [Bool.or_false, Bool.and_false, Bool.false_and, Bool.false_eq_true, if_false]
  exact sum_nr h1 h2
theorem addf_nr {a b : Int} (fa : fnt a) (fb : fnt b) (h1 : -(mv 2139095038 * 2 ^ 149) ≤ (vz a + vz b) * 2 ^ 149) (h2 : (vz a + vz b) * 2 ^ 149 ≤ mv 2139095038 * 2 ^ 149) :
    fnt (addf a b) ∧ nr (vz (addf a b)) ((vz a + vz b) * 2 ^ 149) (2 ^ 149) := by
  rw [Int.add_mul, ← svl_up a, ← svl_up b] at h1 h2 ⊢
  unfold addf addS
  rw [fin_nan fa, fin_nan fb, fin_inf fa, fin_inf fb]
  simp only [Bool.or_false, Bool.and_false, Bool.false_and, Bool.false_eq_true, if_false]
  exact sum_nr h1 h2
theorem subf_nr {a b : Int} (fa : fnt a) (fb : fnt b) (h1 : -(mv 2139095038 * 2 ^ 149) ≤ (vz a - vz b) * 2 ^ 149) (h2 : (vz a - vz b) * 2 ^ 149 ≤ mv 2139095038 * 2 ^ 149) :
    fnt (subf a b) ∧ nr (vz (subf a b)) ((vz a - vz b) * 2 ^ 149) (2 ^ 149) := by
  have ⟨ft, vt⟩ := turn_fin fb
  have e : subf a b = addf a (turnS 2 b) := by
    unfold subf subS addf
    rw [fin_nan fa, fin_nan fb]; rfl
  have k := addf_nr fa ft (by rw [vt, ← Int.sub_eq_add_neg]; exact h1) (by rw [vt, ← Int.sub_eq_add_neg]; exact h2)
  rw [vt, ← Int.sub_eq_add_neg] at k
  rw [e]; exact k
def uu : Rat := 1 / 713623846352979940529142984724747568191373312
def q (x : Int) : Rat := (vz x : Rat) * uu
theorem uu_pos : 0 < uu := by decide +kernel
theorem uu_T : ((2 ^ 149 : Int) : Rat) * uu = 1 := by decide +kernel
def nq (v w e : Rat) : Prop := w - e ≤ v ∧ v ≤ w + e
theorem cast_le {a b : Int} (h : a ≤ b) : (a : Rat) ≤ (b : Rat) := Rat.intCast_le_intCast.2 h
theorem nr_nq {v W : Int} (h : nr v W (2 ^ 149)) {B : Rat} (h1 : -B ≤ (W : Rat) * (uu * uu)) (h2 : (W : Rat) * (uu * uu) ≤ B) : nq ((v : Rat) * uu) ((W : Rat) * (uu * uu)) (B / 8388608 + uu) := by
  obtain ⟨A, hA, a0, h3, h4⟩ := h
  have c3 := cast_le h3
  have c4 := cast_le h4
  simp only [Rat.intCast_neg, Rat.intCast_add, Rat.intCast_mul, Rat.intCast_sub] at c3 c4
  have hT := uu_T
  have hu := uu_pos
  have hB : (A : Rat) * (uu * uu) ≤ B := by
    rcases hA with e | e
    · rw [e]; exact h2
    · rw [e, Rat.intCast_neg]; grind
  generalize ((2 ^ 149 : Int) : Rat) = t at *
  generalize (v : Rat) = v at *
  generalize (W : Rat) = w at *
  generalize (A : Rat) = a at *
  have huu : 0 ≤ uu * uu := Rat.mul_nonneg (by grind) (by grind)
  have k3 := Rat.mul_le_mul_of_nonneg_right c3 huu
  have k4 := Rat.mul_le_mul_of_nonneg_right c4 huu
  generalize uu = u at *
  unfold nq
  have e1 : (v * t - w) * ((8388608 : Int) : Rat) * (u * u) = (v * u - w * (u * u)) * 8388608 := by grind
  have e2 : (a + ((8388608 : Int) : Rat) * t) * (u * u) = a * (u * u) + 8388608 * u := by grind
  have e3 : -(a + ((8388608 : Int) : Rat) * t) * (u * u) = -(a * (u * u) + 8388608 * u) := by grind
  rw [e1, e3] at k3
  rw [e1, e2] at k4
  constructor <;> grind
theorem back_le {W n : Int} (h : (W : Rat) * (uu * uu) ≤ (n : Rat)) : W ≤ n * (2 ^ 149 * 2 ^ 149) := by
  apply Rat.intCast_le_intCast.1
  simp only [Rat.intCast_mul]
  have hT := uu_T
  have huu : (0 : Rat) ≤ ((2 ^ 149 : Int) : Rat) * ((2 ^ 149 : Int) : Rat) := by decide +kernel
  generalize ((2 ^ 149 : Int) : Rat) = t at *
  have k := Rat.mul_le_mul_of_nonneg_right h huu
  generalize uu = u at *
  have e : (W : Rat) * (u * u) * (t * t) = W := by grind
  rw [e] at k; exact k
theorem back_ge {W n : Int} (h : -(n : Rat) ≤ (W : Rat) * (uu * uu)) : -(n * (2 ^ 149 * 2 ^ 149)) ≤ W := by
  have := back_le (W := -W) (n := n) (by rw [Rat.intCast_neg]; grind)
  omega
theorem big_le : (1000 : Int) * (2 ^ 149 * 2 ^ 149) ≤ mv 2139095038 * 2 ^ 149 := by decide +kernel
theorem q_mul (a b : Int) : ((vz a * vz b : Int) : Rat) * (uu * uu) = q a * q b := by
  unfold q; rw [Rat.intCast_mul]; grind
theorem q_fma (a b c : Int) : ((vz a * vz b + vz c * 2 ^ 149 : Int) : Rat) * (uu * uu) = q a * q b + q c := by
  unfold q; rw [Rat.intCast_add, Rat.intCast_mul, Rat.intCast_mul]
  have hT := uu_T
  generalize ((2 ^ 149 : Int) : Rat) = t at *
  grind
theorem q_add (a b : Int) : (((vz a + vz b) * 2 ^ 149 : Int) : Rat) * (uu * uu) = q a + q b := by
  unfold q; rw [Rat.intCast_mul, Rat.intCast_add]
  have hT := uu_T
  generalize ((2 ^ 149 : Int) : Rat) = t at *
  grind
theorem q_sub (a b : Int) : (((vz a - vz b) * 2 ^ 149 : Int) : Rat) * (uu * uu) = q a - q b := by
  unfold q; rw [Rat.intCast_mul, Rat.intCast_sub]
  have hT := uu_T
  generalize ((2 ^ 149 : Int) : Rat) = t at *
  grind
theorem k1000 : ((1000 : Int) : Rat) = 1000 := by decide +kernel
theorem fma_q {a b c : Int} {B : Rat} (fa : fnt a) (fb : fnt b) (fc : fnt c) (hB : B ≤ 1000) (h1 : -B ≤ q a * q b + q c) (h2 : q a * q b + q c ≤ B) :
    fnt (fma a b c) ∧ nq (q (fma a b c)) (q a * q b + q c) (B / 8388608 + uu) := by
  rw [← q_fma] at h1 h2 ⊢
  have bg := big_le
  have l := back_le (W := vz a * vz b + vz c * 2 ^ 149) (n := 1000) (by rw [k1000]; exact Rat.le_trans h2 hB)
  have g := back_ge (W := vz a * vz b + vz c * 2 ^ 149) (n := 1000) (by rw [k1000]; grind)
  have := fma_nr fa fb fc (by omega) (by omega)
  exact ⟨this.1, nr_nq this.2 h1 h2⟩
theorem mulf_q {a b : Int} {B : Rat} (fa : fnt a) (fb : fnt b) (hB : B ≤ 1000) (h1 : -B ≤ q a * q b) (h2 : q a * q b ≤ B) :
    fnt (mulf a b) ∧ nq (q (mulf a b)) (q a * q b) (B / 8388608 + uu) := by
  rw [← q_mul] at h1 h2 ⊢
  have bg := big_le
  have l := back_le (W := vz a * vz b) (n := 1000) (by rw [k1000]; exact Rat.le_trans h2 hB)
  have g := back_ge (W := vz a * vz b) (n := 1000) (by rw [k1000]; grind)
  have := mulf_nr fa fb (by omega) (by omega)
  exact ⟨this.1, nr_nq this.2 h1 h2⟩
theorem addf_q {a b : Int} {B : Rat} (fa : fnt a) (fb : fnt b) (hB : B ≤ 1000) (h1 : -B ≤ q a + q b) (h2 : q a + q b ≤ B) :
    fnt (addf a b) ∧ nq (q (addf a b)) (q a + q b) (B / 8388608 + uu) := by
  rw [← q_add] at h1 h2 ⊢
  have bg := big_le
  have l := back_le (W := (vz a + vz b) * 2 ^ 149) (n := 1000) (by rw [k1000]; exact Rat.le_trans h2 hB)
  have g := back_ge (W := (vz a + vz b) * 2 ^ 149) (n := 1000) (by rw [k1000]; grind)
  have := addf_nr fa fb (by omega) (by omega)
  exact ⟨this.1, nr_nq this.2 h1 h2⟩
theorem subf_q {a b : Int} {B : Rat} (fa : fnt a) (fb : fnt b) (hB : B ≤ 1000) (h1 : -B ≤ q a - q b) (h2 : q a - q b ≤ B) :
    fnt (subf a b) ∧ nq (q (subf a b)) (q a - q b) (B / 8388608 + uu) := by
  rw [← q_sub] at h1 h2 ⊢
  have bg := big_le
  have l := back_le (W := (vz a - vz b) * 2 ^ 149) (n := 1000) (by rw [k1000]; exact Rat.le_trans h2 hB)
  have g := back_ge (W := (vz a - vz b) * 2 ^ 149) (n := 1000) (by rw [k1000]; grind)
  have := subf_nr fa fb (by omega) (by omega)
  exact ⟨this.1, nr_nq this.2 h1 h2⟩
end Go.Proofs.Ytkknnloamidaiaa.VI
