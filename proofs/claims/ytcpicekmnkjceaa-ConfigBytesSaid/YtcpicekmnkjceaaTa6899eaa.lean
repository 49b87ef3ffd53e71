import Derived.Test.YtcpicekmnkjceaaTae705bf5
namespace Go.Proofs.Ytcpicekmnkjceaa.VI
set_option linter.unusedVariables false
set_option linter.unusedSimpArgs false
set_option linter.unusedSimpArgs false
set_option linter.unusedVariables false
set_option maxRecDepth 100000
set_option maxHeartbeats 4000000
theorem cfg_eq {a b c d s : Int} (ha : 0 ≤ a ∧ a ≤ 255) (hb : 0 ≤ b ∧ b ≤ 255) (hc : 0 ≤ c ∧ c ≤ 255) (hd : 0 ≤ d ∧ d ≤ 255) : F_annealseat_Config a b c d s = some (cfg a b c d s) := by
  have e0 : Int.tmod a 6 = a % 6 := tmod_nn ha.1
  have e1 : IntKind.i64.wrap b = b := wi64 (by omega)
  have e2 : IntKind.i64.wrap a = a := wi64 (by omega)
  have e3 : IntKind.i64.wrap c = c := wi64 (by omega)
  have e4 : IntKind.i64.wrap d = d := wi64 (by omega)
  have e5 : Int.tmod b 3 = b % 3 := tmod_nn hb.1
  have e6 : Int.tmod a 25 = a % 25 := tmod_nn ha.1
  have e7 : IntKind.i64.wrap (b % 3 + a % 25) = b % 3 + a % 25 := wi64 (by omega)
  have e8 : IntKind.i64.wrap (b % 3 + a % 25 - b % 3) = a % 25 := by rw [wi64 (by omega)]; omega
  have e9 : IntKind.i64.wrap (a % 25 + 1) = a % 25 + 1 := wi64 (by omega)
  have e10 : Int.tmod c 4 = c % 4 := tmod_nn hc.1
  have e11 : IntKind.i64.wrap (IntKind.u8.wrap (Int.tdiv d 3)) = d / 3 := by rw [tdiv_nn hd.1, wu8 (by omega), wi64 (by omega)]
  have e12 : Int.tmod (d / 3) 4 = d / 3 % 4 := tmod_nn (by omega)
  have e13 : IntKind.u8.wrap (Int.tdiv c 4) = c / 4 := by rw [tdiv_nn hc.1, wu8 (by omega)]
  have e14 : Int.tmod (c / 4) 3 = c / 4 % 3 := tmod_nn (by omega)
  have e15 : IntKind.u8.wrap (Int.tdiv c 12) = c / 12 := by rw [tdiv_nn hc.1, wu8 (by omega)]
  have e16 : Int.tmod (c / 12) 2 = c / 12 % 2 := tmod_nn (by omega)
  have e17 : IntKind.u8.wrap (Int.tdiv c 24) = c / 24 := by rw [tdiv_nn hc.1, wu8 (by omega)]
  have e18 : Int.tmod (c / 24) 2 = c / 24 % 2 := tmod_nn (by omega)
  have e19 : IntKind.u8.wrap (Int.tdiv c 48) = c / 48 := by rw [tdiv_nn hc.1, wu8 (by omega)]
  have e20 : Int.tmod (c / 48) 2 = c / 48 % 2 := tmod_nn (by omega)
  have e21 : Int.tmod d 3 = d % 3 := tmod_nn hd.1
  have e22 : IntKind.i64.wrap (IntKind.u8.wrap (Int.tdiv a 6)) = a / 6 := by rw [tdiv_nn ha.1, wu8 (by omega), wi64 (by omega)]
  have e23 : Int.tmod (a / 6) 3 = a / 6 % 3 := tmod_nn (by omega)
  have e24 : Int.tmod b 4 = b % 4 := tmod_nn hb.1
  have e25 : IntKind.i64.wrap (IntKind.u8.wrap (Int.tdiv b 4)) = b / 4 := by rw [tdiv_nn hb.1, wu8 (by omega), wi64 (by omega)]
  have e26 : Int.tmod (b / 4) 2 = b / 4 % 2 := tmod_nn (by omega)
  have e27 : IntKind.i64.wrap (IntKind.u8.wrap (Int.tdiv b 8)) = b / 8 := by rw [tdiv_nn hb.1, wu8 (by omega), wi64 (by omega)]
  have e28 : Int.tmod (b / 8) 4 = b / 8 % 4 := tmod_nn (by omega)
  have e29 : IntKind.i64.wrap (IntKind.u8.wrap (Int.tdiv b 32)) = b / 32 := by rw [tdiv_nn hb.1, wu8 (by omega), wi64 (by omega)]
  have e30 : Int.tmod (b / 32) 3 = b / 32 % 3 := tmod_nn (by omega)
  have e31 : Int.tmod d 17 = d % 17 := tmod_nn hd.1
  have e32 : IntKind.i64.wrap (IntKind.i64.wrap (d / 3 % 4 + d % 17) + 1) = d / 3 % 4 + d % 17 + 1 := by rw [wi64 (n := d / 3 % 4 + d % 17) (by omega), wi64 (by omega)]
  have e33 : IntKind.i64.wrap (IntKind.u8.wrap (Int.tdiv d 9)) = d / 9 := by rw [tdiv_nn hd.1, wu8 (by omega), wi64 (by omega)]
  have e34 : Int.tmod (d / 9) 4 = d / 9 % 4 := tmod_nn (by omega)
  have e35 : IntKind.i64.wrap (d / 9 % 4 + 1) = d / 9 % 4 + 1 := wi64 (by omega)
  have e36 : IntKind.i64.wrap (IntKind.u8.wrap (Int.tdiv d 36)) = d / 36 := by rw [tdiv_nn hd.1, wu8 (by omega), wi64 (by omega)]
  have e37 : Int.tmod (d / 36) 2 = d / 36 % 2 := tmod_nn (by omega)
  have e38 : IntKind.i64.wrap (d / 36 % 2 + 1) = d / 36 % 2 + 1 := wi64 (by omega)
  have e39 : Int.tmod d 5 = d % 5 := tmod_nn hd.1
  have e40 : Int.tmod c (a % 25 + 1) = c % (a % 25 + 1) := tmod_nn hc.1
  have hm : 0 ≤ c % (a % 25 + 1) ∧ c % (a % 25 + 1) < a % 25 + 1 := ⟨Int.emod_nonneg _ (by omega), Int.emod_lt_of_pos _ (by omega)⟩
  have e41 : IntKind.i64.wrap (b % 3 + c % (a % 25 + 1)) = b % 3 + c % (a % 25 + 1) := wi64 (by omega)
  have e42 : IntKind.i64.wrap (b % 3 + 1) = b % 3 + 1 := wi64 (by omega)
  have e43 : Int.tmod c 2 = c % 2 := tmod_nn hc.1
  have e44 : IntKind.i64.wrap (c % 2 + 1) = c % 2 + 1 := wi64 (by omega)
  have e45 : IntKind.i64.wrap (d % 3 + 1) = d % 3 + 1 := wi64 (by omega)
  have e46 : Int.tmod a 4 = a % 4 := tmod_nn ha.1
  have h0 : (a % 25 + 1 == 0) = false := by simp; omega
  have g1 : ∀ (x : Int) (n : Int), (0 ≤ x % n ∧ x % n < n) = (0 ≤ x % n ∧ x % n < n) := fun _ _ => rfl
  have c1 : (0 ≤ a % 6 ∧ a % 6 < 6) = True := by simp; omega
  have c2 : (0 ≤ c % 4 ∧ c % 4 < 4) = True := by simp; omega
  have c3 : (0 ≤ c / 4 % 3 ∧ c / 4 % 3 < 3) = True := by simp; omega
  have c4 : (0 ≤ c / 12 % 2 ∧ c / 12 % 2 < 2) = True := by simp; omega
  have c5 : (0 ≤ c / 24 % 2 ∧ c / 24 % 2 < 2) = True := by simp; omega
  have c6 : (0 ≤ c / 48 % 2 ∧ c / 48 % 2 < 2) = True := by simp; omega
  have c7 : (0 ≤ d % 3 ∧ d % 3 < 3) = True := by simp; omega
  have z : ∀ n : Nat, 0 + n * 1 = n := fun n => by omega
  have t1 : ((c % 4).toNat < 4) = True := by simp; omega
  have t2 : ((c / 4 % 3).toNat < 3) = True := by simp; omega
  have t3 : ((c / 12 % 2).toNat < 2) = True := by simp; omega
  have t4 : ((c / 24 % 2).toNat < 2) = True := by simp; omega
  have t5 : ((c / 48 % 2).toNat < 2) = True := by simp; omega
  have t6 : ((d % 3).toNat < 3) = True := by simp; omega
  unfold F_annealseat_Config
  simp only [e0, e1, e2, e3, e4, e5, e6, e7, e8, e9, e10, e11, e12, e13, e14, e15, e16, e17, e18, e19, e20, e21, e22, e23, e24, e25, e26, e27, e28, e29, e30, e31, e32, e33, e34, e35, e36, e37, e38, e39, e40, e41, e42, e43, e44, e45, e46, h0, c1, c2, c3, c4, c5, c6, c7, z, t1, t2, t3, t4, t5, t6, decide_true, cond_true, cond_false, bif_beq]
  unfold cfg wlist
  have : a % 6 = 0 ∨ a % 6 = 1 ∨ a % 6 = 2 ∨ a % 6 = 3 ∨ a % 6 = 4 ∨ a % 6 = 5 := by omega
  rcases this with h | h | h | h | h | h <;> simp [h]
end Go.Proofs.Ytcpicekmnkjceaa.VI

namespace Go.Proofs.Ytcpicekmnkjceaa.VI
set_option linter.unusedVariables false
set_option linter.unusedSimpArgs false
set_option linter.unusedSimpArgs false
set_option linter.unusedVariables false
set_option maxRecDepth 100000
set_option maxHeartbeats 4000000
abbrev ScT : Type := Int × Int × Int × Int × Unit
abbrev CfgT.min (c : CfgT) : Int := c.2.2.2.2.2.2.2.2.2.2.2.2.2.2.2.2.2.2.2.2.1
abbrev CfgT.max (c : CfgT) : Int := c.2.2.2.2.2.2.2.2.2.2.2.2.2.2.2.2.2.2.2.2.2.1
abbrev CfgT.back (c : CfgT) : Int := c.2.2.2.2.2.2.2.2.2.2.2.2.2.2.2.2.2.2.2.2.2.2.1
abbrev CfgT.grow (c : CfgT) : Int := c.2.2.2.2.2.2.2.2.2.2.2.2.2.2.2.2.2.2.2.2.2.2.2.1
abbrev CfgT.intv (c : CfgT) : Int := c.2.2.2.2.2.2.2.2.2.2.2.2.2.2.2.2.2.2.2.2.2.2.2.2.1
def scRight (c : CfgT) (s : ScT) : Prop := c.min ≤ s.1 ∧ s.1 ≤ c.max ∧ 0 ≤ s.2.1 ∧ s.2.1 < c.intv ∧ (0 ≤ s.2.2.1 ∧ s.2.2.1 ≤ 4611686018427387904) ∧ (0 ≤ s.2.2.2.1 ∧ s.2.2.2.1 ≤ 4611686018427387904) ∧ s.2.2.2.1 ≤ s.2.2.1
instance (c : CfgT) (s : ScT) : Decidable (scRight c s) := inferInstanceAs (Decidable (_ ∧ _))
theorem count_eq (n : Int) : F_scaler_count n = some (decide (0 ≤ n ∧ n ≤ 4611686018427387904)) := by
  unfold F_scaler_count
  by_cases h : 0 ≤ n <;> simp [h]
theorem right_eq (c : CfgT) (s : ScT) : F_scaler_Right c s = some (decide (scRight c s)) := by
  unfold F_scaler_Right scRight
  simp only [count_eq, Option.bind_some, bif_dec, CfgT.min, CfgT.max, CfgT.intv]
  repeat' split
  all_goals first | (refine some_t ?_; omega) | (refine some_f ?_; omega) | (refine some_dec ?_; omega)
def scGood (c : CfgT) (s : ScT) : ScT := if scRight c s then (if s.2.1 + 1 = c.intv then (min (s.1 + c.grow) c.max, 0, s.2.2.1, 0, ()) else (s.1, s.2.1 + 1, s.2.2.1, 0, ())) else s
def scSkip (c : CfgT) (s : ScT) : ScT := if scRight c s then (max (s.1 - c.back) c.min, 0, min (s.2.2.1 + 1) 4611686018427387904, min (s.2.2.2.1 + 1) 4611686018427387904, ()) else s
def cfgR (c : CfgT) : Prop := 0 ≤ c.min ∧ c.max ≤ 1000 ∧ 0 ≤ c.back ∧ c.back ≤ 1000 ∧ 0 ≤ c.grow ∧ c.grow ≤ 1000 ∧ c.intv ≤ 4611686018427387904
theorem good_eq {c : CfgT} {s : ScT} (h : cfgR c) : F_scaler_Good c s = some (scGood c s) := by
  obtain ⟨h1, h2, h3, h4, h5, h6, h7⟩ := h
  unfold F_scaler_Good scGood
  simp only [List.take_length, eta2, right_eq, Option.bind_some, bif_not, bif_dec, bif_eq]
  split
  · rename_i hr
    have hr' := hr
    obtain ⟨r1, r2, r3, r4, r5, r6, r7⟩ := hr'
    have e1 : IntKind.i64.wrap (s.2.1 + 1) = s.2.1 + 1 := wi64 (by omega)
    have e2 : IntKind.i64.wrap (s.1 + c.grow) = s.1 + c.grow := wi64 (by omega)
    simp only [e1, e2, mn_eq]
    split <;> rfl
  · rfl
theorem skip_eq {c : CfgT} {s : ScT} (h : cfgR c) : F_scaler_Skip c s = some (scSkip c s) := by
  obtain ⟨h1, h2, h3, h4, h5, h6, h7⟩ := h
  unfold F_scaler_Skip scSkip
  simp only [List.take_length, eta2, right_eq, Option.bind_some, bif_not, bif_dec, bif_eq]
  split
  · rename_i hr
    have hr' := hr
    obtain ⟨r1, r2, r3, r4, r5, r6, r7⟩ := hr'
    have e1 : IntKind.i64.wrap (s.2.2.1 + 1) = s.2.2.1 + 1 := wi64 (by omega)
    have e3 : IntKind.i64.wrap (s.2.2.2.1 + 1) = s.2.2.2.1 + 1 := wi64 (by omega)
    have e2 : IntKind.i64.wrap (s.1 - c.back) = s.1 - c.back := wi64 (by omega)
    simp only [e1, e2, e3, mn_eq, mx_eq]
  · rfl
theorem cfg_R {a b c d s : Int} (ha : 0 ≤ a ∧ a ≤ 255) (hb : 0 ≤ b ∧ b ≤ 255) (hc : 0 ≤ c ∧ c ≤ 255) (hd : 0 ≤ d ∧ d ≤ 255) : cfgR (cfg a b c d s) := by
  unfold cfgR cfg
  simp only [CfgT.min, CfgT.max, CfgT.back, CfgT.grow, CfgT.intv]
  omega
theorem begin_eq (c : CfgT) : F_scaler_Begin c = some (c.2.2.2.2.2.2.2.2.2.2.2.2.2.2.2.2.2.2.2.1, 0, 0, 0, ()) := rfl
theorem play {a b c d : Int} {l : List Bool} (ha : 0 ≤ a ∧ a ≤ 255) (hb : 0 ≤ b ∧ b ≤ 255) (hc : 0 ≤ c ∧ c ≤ 255) (hd : 0 ≤ d ∧ d ≤ 255) : F_anneallaw22_ScalerPlays a b c d l = some true := by
  unfold F_anneallaw22_ScalerPlays
  rw [bif_dec]
  split
  · rfl
  · rename_i hlen
    rw [cfg_eq ha hb hc hd]
    have hm : 0 ≤ c % (a % 25 + 1) ∧ c % (a % 25 + 1) < a % 25 + 1 := ⟨Int.emod_nonneg _ (by omega), Int.emod_lt_of_pos _ (by omega)⟩
    have hR := cfg_R (s := 1) ha hb hc hd
    have hlog : (cfg a b c d 1).min ≤ (cfg a b c d 1).2.2.2.2.2.2.2.2.2.2.2.2.2.2.2.2.2.2.2.1 ∧ (cfg a b c d 1).2.2.2.2.2.2.2.2.2.2.2.2.2.2.2.2.2.2.2.1 ≤ (cfg a b c d 1).max ∧ 0 < (cfg a b c d 1).intv := by
      unfold cfg; simp only [CfgT.min, CfgT.max, CfgT.intv]; omega
    generalize cfg a b c d 1 = C at hR hlog ⊢
    simp only [Option.bind_some, allR_true, Bool.and_true, cond_true, rowsOf_self, List.take_length, eta2]
    have key := lim_post (st := st_anneallaw22_ScalerPlays_0)
      (fun v => ∃ log run skips row i : Int, v = ((l, log, run, skips, row, i, ()), (C, ((log, run, skips, row, ()), ()))) ∧ 0 ≤ i ∧ i ≤ l.length ∧ C.min ≤ log ∧ log ≤ C.max ∧ 0 ≤ run ∧ run < C.intv ∧ 0 ≤ skips ∧ skips ≤ i ∧ 0 ≤ row ∧ row ≤ skips)
      (fun v => (v.1.1.length - v.1.2.2.2.2.2.1).toNat) (fun e => e = Sum.inl ((), ())) ?_ ((l, C.2.2.2.2.2.2.2.2.2.2.2.2.2.2.2.2.2.2.2.1, 0, 0, 0, 0, ()), (C, ((C.2.2.2.2.2.2.2.2.2.2.2.2.2.2.2.2.2.2.2.1, 0, 0, 0, ()), ())))
      ⟨_, 0, 0, 0, 0, rfl, by omega, by omega, hlog.1, hlog.2.1, by omega, hlog.2.2, by omega, by omega, by omega, by omega⟩
    · obtain ⟨e, h1, rfl⟩ := key
      have h1' : lim st_anneallaw22_ScalerPlays_0 ((l, C.2.2.2.2.2.2.2.2.2.2.2.2.2.2.2.2.2.2.2.1, 0, 0, 0, 0, ()), (C, ((C.2.2.2.2.2.2.2.2.2.2.2.2.2.2.2.2.2.2.2.1, 0, 0, 0, ()), ()))) = some (Sum.inl ((), ())) := h1
      show ((lim st_anneallaw22_ScalerPlays_0 ((l, C.2.2.2.2.2.2.2.2.2.2.2.2.2.2.2.2.2.2.2.1, 0, 0, 0, 0, ()), (C, ((C.2.2.2.2.2.2.2.2.2.2.2.2.2.2.2.2.2.2.2.1, 0, 0, 0, ()), ())))).bind _) = _
      rw [h1']; rfl
    · rintro _ ⟨log, run, skips, row, i, rfl, i1, i2, q1, q2, q3, q4, q5, q6, q7, q8⟩
      have hR' := hR
      obtain ⟨h1, h2, h3, h4, h5, h6, h7⟩ := hR'
      by_cases hi : i < l.length
      · have hs : scRight C (log, run, skips, row, ()) := ⟨q1, q2, q3, q4, ⟨q5, by simp only; omega⟩, ⟨q7, by simp only; omega⟩, q8⟩
        have w1 : IntKind.i64.wrap (i + 1) = i + 1 := wi64 (by omega)
        have w2 : IntKind.i64.wrap (run + 1) = run + 1 := wi64 (by omega)
        have w3 : IntKind.i64.wrap (log + C.grow) = log + C.grow := wi64 (by omega)
        have w4 : IntKind.i64.wrap (log - C.back) = log - C.back := wi64 (by omega)
        have w5 : IntKind.i64.wrap (skips + 1) = skips + 1 := wi64 (by omega)
        have w6 : IntKind.i64.wrap (row + 1) = row + 1 := wi64 (by omega)
        left
        cases hb : (l.getD i.toNat false) with
        | true =>
          by_cases he : run + 1 = C.intv
          · have hr2 : scRight C (min (log + C.grow) C.max, 0, skips, 0, ()) := ⟨by simp only; omega, by simp only; omega, by simp only; omega, by simp only; omega, ⟨by simp only; omega, by simp only; omega⟩, ⟨by simp only; omega, by simp only; omega⟩, by simp only; omega⟩
            refine ⟨((l, min (log + C.grow) C.max, 0, skips, 0, i + 1, ()), (C, ((min (log + C.grow) C.max, 0, skips, 0, ()), ()))), fun R kn ko => ?_, ⟨_, _, _, _, _, rfl, by omega, by omega, by omega, by omega, by omega, by omega, by omega, by omega, by omega, by omega⟩, by simp only; omega⟩
            simp only [st_anneallaw22_ScalerPlays_0, hi, i1, decide_true, and_self, cond_true, hb, List.take_length, eta2, good_eq hR, right_eq, Option.bind_some, w1, w2, w3, allR_true, rowsOf_self, mn_eq, Bool.and_true]
            simp [scGood, hs, he, hr2]
          · have hr2 : scRight C (log, run + 1, skips, 0, ()) := ⟨q1, q2, by simp only; omega, by simp only; omega, ⟨by simp only; omega, by simp only; omega⟩, ⟨by simp only; omega, by simp only; omega⟩, by simp only; omega⟩
            refine ⟨((l, log, run + 1, skips, 0, i + 1, ()), (C, ((log, run + 1, skips, 0, ()), ()))), fun R kn ko => ?_, ⟨_, _, _, _, _, rfl, by omega, by omega, by omega, by omega, by omega, by omega, by omega, by omega, by omega, by omega⟩, by simp only; omega⟩
            simp only [st_anneallaw22_ScalerPlays_0, hi, i1, decide_true, and_self, cond_true, hb, List.take_length, eta2, good_eq hR, right_eq, Option.bind_some, w1, w2, w3, allR_true, rowsOf_self, mn_eq, Bool.and_true]
            have hf : (run + 1 == C.2.2.2.2.2.2.2.2.2.2.2.2.2.2.2.2.2.2.2.2.2.2.2.2.1) = false := by simpa using he
            simp [scGood, hs, he, hf, hr2]
        | false =>
          have hr2 : scRight C (max (log - C.back) C.min, 0, skips + 1, row + 1, ()) := ⟨by simp only; omega, by simp only; omega, by simp only; omega, by simp only; omega, ⟨by simp only; omega, by simp only; omega⟩, ⟨by simp only; omega, by simp only; omega⟩, by simp only; omega⟩
          refine ⟨((l, max (log - C.back) C.min, 0, skips + 1, row + 1, i + 1, ()), (C, ((max (log - C.back) C.min, 0, skips + 1, row + 1, ()), ()))), fun R kn ko => ?_, ⟨_, _, _, _, _, rfl, by omega, by omega, by omega, by omega, by omega, by omega, by omega, by omega, by omega, by omega⟩, by simp only; omega⟩
          have m1 : min (skips + 1) 4611686018427387904 = skips + 1 := by omega
          have m2 : min (row + 1) 4611686018427387904 = row + 1 := by omega
          simp only [st_anneallaw22_ScalerPlays_0, hi, i1, decide_true, and_self, cond_true, cond_false, hb, List.take_length, eta2, skip_eq hR, right_eq, Option.bind_some, w1, w4, w5, w6, allR_true, rowsOf_self, mx_eq, Bool.and_true]
          simp [scSkip, hs, hr2, m1, m2]
      · right
        refine ⟨_, fun R kn ko => ?_, rfl⟩
        simp only [st_anneallaw22_ScalerPlays_0, hi, decide_false, cond_false]
end Go.Proofs.Ytcpicekmnkjceaa.VI
