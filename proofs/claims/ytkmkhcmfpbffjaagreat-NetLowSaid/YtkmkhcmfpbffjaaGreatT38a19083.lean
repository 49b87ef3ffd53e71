import Derived.Test.YtkmkhcmfpbffjaaGreatTc4e9a367
namespace Go.Proofs.YtkmkhcmfpbffjaaGreat.VI
set_option linter.unusedVariables false
set_option linter.unusedSimpArgs false
set_option maxRecDepth 100000
set_option maxHeartbeats 4000000
theorem narrowr_eq (f : Int) {a : Int} (ha : w32 a) : F_914 f a = some (narrow f a) := by
  unfold F_914 narrow; rw [tor_eq 2 f 0 ha]; rfl
theorem act_k (k : Int) : F_97e k = some (decide (0 ≤ k ∧ k ≤ 3)) := by
  unfold F_97e
  simp only [bif_dec]
  by_cases h : 0 ≤ k <;> simp [h]
def fwdL (k : Int) (t : TsT) : List Int := (List.range t.2.2.2.1.length).map (fun i => narrow t.2.2.1 (valS k (widen t.2.2.1 (t.2.2.2.1.getD i 0))))
def fwdT (k : Int) (t : TsT) : TsT × Int × Unit := if rightS t then (if 0 ≤ k ∧ k ≤ 3 then ((t.1, t.2.1, t.2.2.1, fwdL k t, ()), 0, ()) else (noT, 22, ())) else (noT, 21, ())
theorem fwd_all (t : TsT) (k : Int) (hl : wl t.2.2.2.1) (hn : t.2.2.2.1.length ≤ 1073741824) : F_94b k t = some (fwdT k t) := by
  unfold fwdT
  by_cases hr : rightS t = true
  · rw [if_pos hr]
    by_cases hk : 0 ≤ k ∧ k ≤ 3
    · rw [if_pos hk, fwd_eq t k (valS k) (fun x hx => ⟨val_eq k hx, val_w k hx⟩) hl hn hk hr]; rfl
    · rw [if_neg hk]
      obtain ⟨r, c, f, l, ⟨⟩⟩ := t
      simp only at hl hn
      unfold F_94b
      dsimp only
      simp only [List.take_length]
      have e0 : List.getD [k] 0 0 = k := rfl
      rw [right_eq (r, c, f, l, ()) hl (by simp only; omega), hr, e0, act_k]
      simp only [Option.bind_some, Bool.not_true, cond_false]
      rw [decide_eq_false hk]; rfl
  · rw [if_neg hr]
    rw [Bool.not_eq_true] at hr
    obtain ⟨r, c, f, l, ⟨⟩⟩ := t
    simp only at hl hn
    unfold F_94b
    dsimp only
    simp only [List.take_length]
    rw [right_eq (r, c, f, l, ()) hl (by simp only; omega), hr]
    rfl
def nearP (f a v : Int) : Prop := v = (toS 2 f 3 a).1 ∨ v = (toS 2 f 2 a).1
theorem narrow_near (f a : Int) : nearP f a (narrow f a) := by
  unfold nearP
  show (toS 2 f 0 a).1 = _ ∨ (toS 2 f 0 a).1 = _
  unfold toS
  by_cases h1 : nan 2 a = true
  · rw [if_pos h1, if_pos h1]; exact .inl rfl
  rw [if_neg h1, if_neg h1, if_neg h1]
  by_cases h2 : inff 2 a = true
  · rw [if_pos h2, if_pos h2]; exact .inl rfl
  rw [if_neg h2, if_neg h2, if_neg h2]
  exact pkN_two (sig_bd 2 a).1 (pkN_near f (sg 2 a) (xp 2 a) (sig 2 a))
theorem unit_lo (f e N : Int) : le f - MM f ≤ unitS f e N := by
  unfold unitS; split <;> omega
theorem emod_le {a b : Int} (h : 0 ≤ a) (hb : 0 < b) : a % b ≤ a := by
  by_cases k : a < b
  · rw [Int.emod_eq_of_lt h k]; exact Int.le_refl _
  · have := Int.emod_lt_of_pos a hb; omega
theorem pk_over {f : Int} {neg : Bool} {e N : Int} (h : (pk f 0 neg e N false).2.1.2.2.1 = true) : (pk f 0 neg e N false).1 = sgn f neg + IN f := by
  unfold pk at h ⊢
  by_cases z : N = 0 ∧ false = false
  · rw [if_pos z] at h; cases h
  · rw [if_neg z] at h ⊢
    rw [fin2_1]
    by_cases o : ovf f (unitS f e N) (fin1 0 neg (qS N (unitS f e N - e)) (halfS N (unitS f e N - e)) (restS N (unitS f e N - e) false))
    · rw [if_pos o]; exact (over_away f neg).2
    · exfalso
      unfold ovf at o
      unfold fin2 at h
      rw [if_neg o] at h
      cases h
theorem lost_some {N b : Int} (hb : 0 < b) (h : N % 2 ^ b.toNat ≠ 0) : (halfS N b || restS N b false) = true := by
  unfold halfS restS
  rw [if_neg (by omega), if_neg (by omega), Bool.false_or]
  by_cases h1 : N % 2 ^ (b - 1).toNat = 0
  · by_cases h2 : N / 2 ^ (b - 1).toNat % 2 = 1
    · rw [decide_eq_true h2]; rfl
    · exfalso; apply h
      have e : b.toNat = (b - 1).toNat + 1 := by omega
      rw [e, p2_succ]
      have d : N = 2 ^ (b - 1).toNat * (N / 2 ^ (b - 1).toNat) := by
        have := Int.mul_ediv_add_emod N (2 ^ (b - 1).toNat); omega
      have e2 : N / 2 ^ (b - 1).toNat = 2 * (N / 2 ^ (b - 1).toNat / 2) := by omega
      rw [d, e2, show (2 : Int) ^ (b - 1).toNat * (2 * (N / 2 ^ (b - 1).toNat / 2)) = (2 * 2 ^ (b - 1).toNat) * (N / 2 ^ (b - 1).toNat / 2) by rw [← Int.mul_assoc, Int.mul_comm _ 2]]
      exact Int.mul_emod_right _ _
  · rw [decide_eq_true h1]; simp
theorem chance_ok (f : Int) {a : Int} (w : Int) (ha : w32 a) : ∃ v, F_952 f a w = some v ∧ wf f v ∧ nearP f a v := by
  have nw : ∃ v, some (narrow f a) = some v ∧ wf f v ∧ nearP f a v := ⟨_, rfl, to_wf 2 f 0 a, narrow_near f a⟩
  have fb := fmt_bd f
  have lb := le_bd f
  obtain ⟨kM, hkM, hbM, hk3⟩ := MM_pow f
  unfold F_952
  rw [narrow_eq f ha]
  refine (?_ : ∃ v, (bif _ then _ else _) = some v ∧ _)
  by_cases hfin : (!(decide ((IntKind.wrap .i64 (bits .and .u32 (a / (8388608:Int)) (255:Int))) < (255:Int)))) = true
  · rw [hfin]; exact nw
  rw [Bool.eq_false_iff.2 hfin, iszero_eq 2 ha]
  simp only [cond_false, Option.bind_some]
  by_cases hz : zr 2 a = true
  · rw [hz]; exact nw
  rw [Bool.eq_false_iff.2 hz, of_eq 2 ha]
  simp only [cond_false, Option.bind_some]
  have xb := xp_bd 2 a
  have sb := sig_bd 2 a
  have s48 := sig_w64 2 a
  have B2 : BB 2 = 8388608 := by decide
  rw [unit_eq f (by omega) s48]
  simp only [Option.bind_some]
  have ul := unit_lo f (xp 2 a) (sig 2 a)
  have lnb := ln_bd (v := sig 2 a) (k := 24) sb.1 (by have : (2 : Int) ^ 24 = 16777216 := rfl; omega)
  have hd : decide ((IntKind.wrap .i64 (bits .and .u32 (a / (8388608:Int)) (255:Int))) < (255:Int)) = true := by
    cases hh : decide ((IntKind.wrap .i64 (bits .and .u32 (a / (8388608:Int)) (255:Int))) < (255:Int))
    · rw [hh] at hfin; exact absurd rfl hfin
    · rfl
  have a0 := ha.1
  have a1 := ha.2
  rw [a8 (a / 8388608) (by omega) (by omega), wi64 (by omega), decide_eq_true_iff] at hd
  have hn : nan 2 a = false := by
    unfold nan; apply decide_eq_false; rw [show IN 2 = 2139095040 by decide, show TT 2 = 2147483648 from rfl]; omega
  have hi : inff 2 a = false := by
    unfold inff; apply decide_eq_false; rw [show IN 2 = 2139095040 by decide, show TT 2 = 2147483648 from rfl]; omega
  have hN0 : sig 2 a ≠ 0 := fun z => hz ((sig_zero 2 a hn hi).1 z)
  have ub : xp 2 a - 23 ≤ unitS f (xp 2 a) (sig 2 a) ∧ unitS f (xp 2 a) (sig 2 a) ≤ 1000 := by
    have : 1 ≤ ln (sig 2 a) := by rw [ln_pos (by omega)]; omega
    unfold unitS; rw [if_neg hN0]; omega
  generalize hu : unitS f (xp 2 a) (sig 2 a) = u at ul ub ⊢
  rw [wi64 (n := u - xp 2 a) (by omega)]
  by_cases hneg : u - xp 2 a ≤ 0
  · have : ∃ r, F_976 (sig 2 a) (u - xp 2 a) = some r := by
      by_cases h0 : 0 ≤ u - xp 2 a
      · rw [shr_eq s48 (by omega)]; exact ⟨_, rfl⟩
      · have e : u - xp 2 a = -(xp 2 a - u) := by omega
        have p : (2 : Int) ^ (xp 2 a - u).toNat ≤ 8388608 := by
          have := p2_le (show (xp 2 a - u).toNat ≤ 23 by omega)
          have : (2 : Int) ^ 23 = 8388608 := rfl
          omega
        have p0 := p2_pos (xp 2 a - u).toNat
        have hm : sig 2 a * 2 ^ (xp 2 a - u).toNat < 18446744073709551616 := by
          have := Int.mul_le_mul_of_nonneg_left p sb.1
          omega
        rw [e, shl_eq s48 (by omega) hm]; exact ⟨_, rfl⟩
    obtain ⟨r, hr⟩ := this
    rw [hr]
    simp only [Option.bind_some, bif_dec]
    rw [if_pos hneg]; exact nw
  have hby : 0 < u - xp 2 a := by omega
  rw [shr_eq s48 (by omega)]
  simp only [Option.bind_some, bif_dec]
  rw [if_neg hneg]
  by_cases hex : decide (sig 2 a % 2 ^ (u - xp 2 a).toNat ≠ 0) = true
  · have hq := q_bd f (xp 2 a) (sig 2 a) sb.1
    rw [hu] at hq
    have hqe : qS (sig 2 a) (u - xp 2 a) = sig 2 a / 2 ^ (u - xp 2 a).toNat := by unfold qS; rw [if_neg hneg]
    rw [hqe] at hq
    have hr0 : 0 ≤ sig 2 a % 2 ^ (u - xp 2 a).toNat := Int.emod_nonneg _ (by have := p2_pos (u - xp 2 a).toNat; omega)
    have hr1 : sig 2 a % 2 ^ (u - xp 2 a).toNat < 2 ^ (u - xp 2 a).toNat := Int.emod_lt_of_pos _ (p2_pos _)
    have hr2 : sig 2 a % 2 ^ (u - xp 2 a).toNat ≤ sig 2 a := emod_le sb.1 (p2_pos _)
    rw [hex, cut_any s48 (by omega)]
    simp only [Bool.not_true, cond_false, Option.bind_some]
    obtain ⟨pv, hpv⟩ := part_some (r := sig 2 a % 2 ^ (u - xp 2 a).toNat) (n := u - xp 2 a) ⟨hr0, by omega⟩ ⟨hby, by omega⟩ hr1
    rw [hpv]
    simp only [Option.bind_some]
    have hlost := lost_some (N := sig 2 a) (b := u - xp 2 a) hby (of_decide_eq_true hex)
    have hBq : BB f ≤ sig 2 a / 2 ^ (u - xp 2 a).toNat ∨ u = le f - MM f := by
      rw [← hu]
      unfold unitS
      rw [if_neg hN0]
      by_cases hm : le f ≥ xp 2 a + ln (sig 2 a) - 1
      · right; omega
      · left
        have hp : 0 < sig 2 a := by omega
        have l1 := lg_le hp
        have e1 : ln (sig 2 a) = lg (sig 2 a) + 1 := ln_pos hp
        have hu2 : u = xp 2 a + ln (sig 2 a) - 1 - MM f := by rw [← hu]; unfold unitS; rw [if_neg hN0]; omega
        have e2 : (max (le f) (xp 2 a + ln (sig 2 a) - 1) - MM f - xp 2 a).toNat = lg (sig 2 a) - kM := by omega
        rw [e2]
        refine (Int.le_ediv_iff_mul_le (p2_pos _)).2 ?_
        rw [hbM, ← p2_add, show kM + (lg (sig 2 a) - kM) = lg (sig 2 a) by omega]
        exact l1
    have fin : ∀ q' : Int, 0 ≤ q' → q' ≤ 2 * BB f → (BB f ≤ q' ∨ u = le f - MM f) → (q' = sig 2 a / 2 ^ (u - xp 2 a).toNat ∨ q' = sig 2 a / 2 ^ (u - xp 2 a).toNat + 1) →
        ∃ v, ((F_95d f 0 (sg 2 a) u q' false).bind fun r12 => bif r12.2.1.2.2.1 then ((F_93a f (sg 2 a)).bind fun r14 => some r14) else some r12.1) = some v ∧ wf f v ∧ nearP f a v := by
      intro q' g0 g1 g2 g3
      rw [pack_eq f 0 (sg 2 a) u (N := q') ⟨g0, by omega⟩ false, show min (max u (-10000)) 10000 = u by omega, inf_eq]
      simp only [Option.bind_some]
      have hv := pk_self (f := f) (u := u) (q := q') (sg 2 a) g0 g1 ul g2
      have hnear : nearP f a (RV f (sg 2 a) u q') := by
        unfold nearP toS
        rw [hn, hi]
        simp only [Bool.false_eq_true, if_false]
        refine pkN_two sb.1 (.inr ⟨hN0, ?_⟩)
        rw [hu, hqe]
        rcases g3 with e | e
        · left; rw [e]
        · right; exact ⟨by rw [e], hlost⟩
      by_cases ho : (pk f 0 (sg 2 a) u q' false).2.1.2.2.1 = true
      · rw [ho]
        refine ⟨_, rfl, infs_wf f _, ?_⟩
        rw [← pk_over ho, hv]; exact hnear
      · rw [Bool.eq_false_iff.2 ho]
        refine ⟨_, rfl, pk_wf _ _ _ _ _ _ g0, ?_⟩
        rw [hv]; exact hnear
    by_cases hc : pv > IntKind.wrap .u64 w
    · rw [if_pos hc]
      have : IntKind.wrap .u64 (sig 2 a / 2 ^ (u - xp 2 a).toNat + 1) = sig 2 a / 2 ^ (u - xp 2 a).toNat + 1 := wu64 (by omega)
      rw [this]
      exact fin _ (by omega) (by omega) (by omega) (.inr rfl)
    · rw [if_neg hc]
      exact fin _ hq.1 (by omega) hBq (.inl rfl)
  · rw [Bool.eq_false_iff.2 hex]; exact nw
noncomputable def chN (f a w : Int) : Int := (F_952 f a w).getD 0
theorem chN_ok (f : Int) {a : Int} (w : Int) (ha : w32 a) : F_952 f a w = some (chN f a w) ∧ wf f (chN f a w) ∧ nearP f a (chN f a w) := by
  obtain ⟨v, h1, h2, h3⟩ := chance_ok f w ha
  have e : chN f a w = v := by unfold chN; rw [h1]; rfl
  rw [e]; exact ⟨h1, h2, h3⟩
noncomputable def pnx (v : S_989_0) : S_989_0 := (st_989_0 S_989_0 v some (fun _ => none)).getD v
theorem pnx_eq {v : S_989_0} (h : v.1.1 < 10) (R : Type) (kn ko) : st_989_0 R v kn ko = kn (pnx v) := by
  unfold pnx st_989_0
  simp only [bif_dec]
  rw [if_pos h, if_pos h]; rfl
theorem pnx_cnt {v : S_989_0} (h : v.1.1 < 10) : (pnx v).1.1 = IntKind.wrap .i64 (v.1.1 + 1) := by
  unfold pnx st_989_0
  simp only [bif_dec]
  rw [if_pos h]; rfl
noncomputable def psq (v : S_989_0) : Nat → S_989_0
  | 0 => v
  | n + 1 => pnx (psq v n)
theorem psq_cnt {v : S_989_0} (h : v.1.1 = 0) : ∀ n : Nat, n ≤ 10 → (psq v n).1.1 = n
  | 0, _ => h
  | n + 1, k => by
    have := psq_cnt h n (by omega)
    show (pnx (psq v n)).1.1 = _
    have q : (n : Int) < 10 := by omega
    have q2 : IntKind.wrap .i64 ((n : Int) + 1) = ((n + 1 : Nat) : Int) := by rw [wi64 (by omega)]; omega
    rw [pnx_cnt (by rw [this]; exact q), this]; exact q2
theorem blk_some (k c : List Int) : ∃ v, F_989 k c = some v := by
  unfold F_989
  generalize hv : (((0:Int), ()), ([(List.getD k (0:Nat) (0:Int)), (List.getD k (1:Nat) (0:Int))], ([(List.getD c (0:Nat) (0:Int)), (List.getD c (1:Nat) (0:Int)), (List.getD c (2:Nat) (0:Int)), (List.getD c (3:Nat) (0:Int))], ([(0:Int), (0:Int), (0:Int), (0:Int)], ())))) = v0
  have h0 : v0.1.1 = (0 : Int) := by rw [← hv]
  have hl : ∃ b, ∀ (R : Type) (kn ko), st_989_0 R (psq v0 10) kn ko = ko b := by
    have := psq_cnt h0 10 (Nat.le_refl _)
    generalize psq v0 10 = v at *
    refine ⟨((), ([(List.getD v.2.2.1 (0:Nat) (0:Int)), (List.getD v.2.2.1 (1:Nat) (0:Int)), (List.getD v.2.2.1 (2:Nat) (0:Int)), (List.getD v.2.2.1 (3:Nat) (0:Int))], ([(List.getD v.2.2.2.1 (0:Nat) (0:Int)), (List.getD v.2.2.2.1 (1:Nat) (0:Int)), (List.getD v.2.2.2.1 (2:Nat) (0:Int)), (List.getD v.2.2.2.1 (3:Nat) (0:Int))], ()))), fun R kn ko => ?_⟩
    unfold st_989_0
    simp only [bif_dec]
    have q : ¬ ((10 : Nat) : Int) < 10 := by omega
    rw [if_neg (by rw [this]; exact q)]
  obtain ⟨b, hb⟩ := hl
  have := lim_seq (st := st_989_0) (psq v0) (b := b) 10
    (fun i hi R kn ko => by
      have q : (i : Int) < 10 := by omega
      exact pnx_eq (by rw [psq_cnt h0 i (by omega)]; exact q) R kn ko) hb
  have e : lim st_989_0 v0 = some b := this
  rw [e]
  exact ⟨_, rfl⟩
noncomputable def wordF (s t n : Int) : Int := (F_954 s t n).getD 0
theorem word_eq (s t : Int) {n : Int} (h : 0 ≤ n) : F_954 s t n = some (wordF s t n) := by
  have : ∃ w, F_954 s t n = some w := by
    unfold F_954
    dsimp only
    obtain ⟨v, hv⟩ := blk_some [(IntKind.wrap .u32 s), (IntKind.wrap .u32 (s / (4294967296:Int)))] [(IntKind.wrap .u32 (IntKind.wrap .u64 (Int.tdiv n (4:Int)))), (IntKind.wrap .u32 ((IntKind.wrap .u64 (Int.tdiv n (4:Int))) / (4294967296:Int))), t, (0:Int)]
    rw [hv]
    simp only [Option.bind_some, bif_dec, tmod_nn h]
    rw [if_pos (by omega)]
    have hc : n % 4 = 0 ∨ n % 4 = 1 ∨ n % 4 = 2 ∨ n % 4 = 3 := by omega
    rcases hc with e | e | e | e <;> rw [e] <;> exact ⟨_, rfl⟩
  obtain ⟨w, hw⟩ := this
  unfold wordF; rw [hw]; rfl
theorem eachC_eq (t z : TsT) (g k : Int) (hl : wl t.2.2.2.1) (hn : t.2.2.2.1.length ≤ 1073741824) :
    F_9a9 t g z [k] = some ((t.1, t.2.1, g, (List.range t.2.2.2.1.length).map (fun i => (toS z.2.2.1 k 0 (t.2.2.2.1.getD i 0)).1), ()), (z, ([k], ()))) := by
  obtain ⟨r, c, f, l, ⟨⟩⟩ := t
  obtain ⟨b1, b2, b3, b4, ⟨⟩⟩ := z
  simp only at hl hn ⊢
  have := lim_seq (st := st_9a9_0) (fun i => ((l, ((l.length : Int), ((i : Int), ()))), ((b1, (b2, (b3, (b4, ())))), ([k], (((0:Int), ((0:Int), ((0:Int), ()))), ((r, (c, (g, (l.length, ())))), (lay1 (fun i => (toS b3 k 0 (l.getD i 0)).1) l.length i, ())))))))
    (b := ((), ((b1, (b2, (b3, (b4, ())))), ([k], (((0:Int), ((0:Int), ((0:Int), ()))), ((r, (c, (g, (l.length, ())))), (lay1 (fun i => (toS b3 k 0 (l.getD i 0)).1) l.length l.length, ()))))))) l.length
    (fun i hi R kn ko => by
      have hll := lay1_len (fun i => (toS b3 k 0 (l.getD i 0)).1) (Nat.le_of_lt hi)
      have hls := lay1_set (fun i => (toS b3 k 0 (l.getD i 0)).1) hi
      unfold st_9a9_0 F_94f
      dsimp only at hls ⊢
      simp only [List.take_length, bif_dec, hll, Int.toNat_natCast]
      have e0 : List.getD [k] 0 0 = k := rfl
      rw [if_pos (by omega), if_pos (by omega), if_pos (show 0 < [k].length by simp), e0, to_eq b3 k 0 (wl_get hl i)]
      simp only [Option.bind_some]
      rw [if_pos (show (0 : Int) ≤ (i : Int) ∧ (i : Int) < (l.length : Int) by omega), if_pos (show 0 + i * 1 < l.length by omega), show 0 + i * 1 = i by omega, hls, wi64 (by omega), show ((i + 1 : Nat) : Int) = (i : Int) + 1 by omega])
    (fun R kn ko => by
      unfold st_9a9_0
      dsimp only
      simp only [List.take_length, bif_dec]
      rw [if_neg (by omega)])
  rw [lay1_zero] at this
  unfold F_9a9
  dsimp only
  simp only [List.take_length, bif_dec, Int.toNat_natCast]
  rw [if_pos (by omega)]
  have e : lim st_9a9_0 ((l, ((l.length : Int), ((0 : Int), ()))), ((b1, (b2, (b3, (b4, ())))), ([k], (((0:Int), ((0:Int), ((0:Int), ()))), ((r, (c, (g, (l.length, ())))), (List.replicate l.length 0, ())))))) = _ := this
  rw [e]
  simp only [Option.bind_some, List.take_length, List.drop_zero, lay1_all]
  rw [List.take_of_length_le (by simp)]
def castL (t : TsT) (f : Int) : List Int := (List.range t.2.2.2.1.length).map (fun i => (toS t.2.2.1 f 0 (t.2.2.2.1.getD i 0)).1)
def castT (t : TsT) (f : Int) : TsT × Int × Unit := if rightS t = true then (if knownS f = true then ((t.1, t.2.1, f, castL t f, ()), 0, ()) else (noT, 22, ())) else (noT, 21, ())
theorem cast_eq (t : TsT) (f : Int) (hl : wl t.2.2.2.1) (hn : t.2.2.2.1.length ≤ 1073741824) : F_925 t f = some (castT t f) := by
  obtain ⟨r, c, g, l, ⟨⟩⟩ := t
  simp only at hl hn
  unfold F_925 F_9aa castT
  dsimp only
  have e0 : List.getD [f] 0 0 = f := rfl
  simp only [List.take_length, e0]
  rw [right_eq (r, c, g, l, ()) hl (by simp only; omega), known_t]
  simp only [Option.bind_some]
  cases hr : rightS (r, c, g, l, ())
  · simp
  · simp only [Bool.not_true, cond_false, if_true]
    cases hk : knownS f
    · simp
    · simp only [Bool.not_true, cond_false, if_true]
      rw [eachC_eq (r, c, g, l, ()) (r, c, g, l, ()) f f hl hn]
      simp only [Option.bind_some, List.take_length]
      rfl
theorem eachH_eq (t z : TsT) (g k s u : Int) (hl : wl t.2.2.2.1) (hn : t.2.2.2.1.length ≤ 1073741824) :
    F_9ab t g [k] z [s] [u] = some ((t.1, t.2.1, g, (List.range t.2.2.2.1.length).map (fun (i : Nat) => chN k (widen z.2.2.1 (t.2.2.2.1.getD i 0)) (wordF s u (i : Int))), ()), ([k], (z, ([s], ([u], ()))))) := by
  obtain ⟨r, c, f, l, ⟨⟩⟩ := t
  obtain ⟨b1, b2, b3, b4, ⟨⟩⟩ := z
  simp only at hl hn ⊢
  have := lim_seq (st := st_9ab_0) (fun i => ((l, ((l.length : Int), ((i : Int), ()))), ([k], ((b1, (b2, (b3, (b4, ())))), ([s], ([u], (((0:Int), ((0:Int), ((0:Int), ()))), ((r, (c, (g, (l.length, ())))), (lay1 (fun (i : Nat) => chN k (widen b3 (l.getD i 0)) (wordF s u (i : Int))) l.length i, ())))))))))
    (b := ((), ([k], ((b1, (b2, (b3, (b4, ())))), ([s], ([u], (((0:Int), ((0:Int), ((0:Int), ()))), ((r, (c, (g, (l.length, ())))), (lay1 (fun (i : Nat) => chN k (widen b3 (l.getD i 0)) (wordF s u (i : Int))) l.length l.length, ()))))))))) l.length
    (fun i hi R kn ko => by
      have hll := lay1_len (fun (i : Nat) => chN k (widen b3 (l.getD i 0)) (wordF s u (i : Int))) (Nat.le_of_lt hi)
      have hls := lay1_set (fun (i : Nat) => chN k (widen b3 (l.getD i 0)) (wordF s u (i : Int))) hi
      unfold st_9ab_0 F_951
      dsimp only at hls ⊢
      simp only [List.take_length, bif_dec, hll, Int.toNat_natCast]
      have e0 : List.getD [k] 0 0 = k := rfl
      have e1 : List.getD [s] 0 0 = s := rfl
      have e2 : List.getD [u] 0 0 = u := rfl
      rw [if_pos (by omega), if_pos (by omega), if_pos (show 0 < [k].length by simp), widen_eq b3 (wl_get hl i)]
      simp only [Option.bind_some]
      rw [if_pos (show 0 < [s].length by simp), if_pos (show 0 < [u].length by simp), e0, e1, e2, wu64 (by omega), word_eq s u (by omega)]
      simp only [Option.bind_some]
      rw [(chN_ok k (wordF s u (i : Int)) (widen_w b3 (l.getD i 0))).1]
      simp only [Option.bind_some]
      rw [if_pos (show (0 : Int) ≤ (i : Int) ∧ (i : Int) < (l.length : Int) by omega), if_pos (show 0 + i * 1 < l.length by omega), show 0 + i * 1 = i by omega, hls, wi64 (by omega), show ((i + 1 : Nat) : Int) = (i : Int) + 1 by omega])
    (fun R kn ko => by
      unfold st_9ab_0
      dsimp only
      simp only [List.take_length, bif_dec]
      rw [if_neg (by omega)])
  rw [lay1_zero] at this
  unfold F_9ab
  dsimp only
  simp only [List.take_length, bif_dec, Int.toNat_natCast]
  rw [if_pos (by omega)]
  have e : lim st_9ab_0 ((l, ((l.length : Int), ((0 : Int), ()))), ([k], ((b1, (b2, (b3, (b4, ())))), ([s], ([u], (((0:Int), ((0:Int), ((0:Int), ()))), ((r, (c, (g, (l.length, ())))), (List.replicate l.length 0, ())))))))) = _ := this
  rw [e]
  simp only [Option.bind_some, List.take_length, List.drop_zero, lay1_all]
  rw [List.take_of_length_le (by simp)]
noncomputable def chL (t : TsT) (f s u : Int) : List Int := (List.range t.2.2.2.1.length).map (fun (i : Nat) => chN f (widen t.2.2.1 (t.2.2.2.1.getD i 0)) (wordF s u (i : Int)))
noncomputable def chT (t : TsT) (f s u : Int) : TsT × Int × Unit := if rightS t = true then (if knownS f = true then ((t.1, t.2.1, f, chL t f s u, ()), 0, ()) else (noT, 22, ())) else (noT, 21, ())
theorem chanceT_eq (t : TsT) (f s u : Int) (hl : wl t.2.2.2.1) (hn : t.2.2.2.1.length ≤ 1073741824) : F_926 t f s u = some (chT t f s u) := by
  obtain ⟨r, c, g, l, ⟨⟩⟩ := t
  simp only at hl hn
  unfold F_926 F_9ac chT
  dsimp only
  have e0 : List.getD [f] 0 0 = f := rfl
  simp only [List.take_length, e0]
  rw [right_eq (r, c, g, l, ()) hl (by simp only; omega), known_t]
  simp only [Option.bind_some]
  cases hr : rightS (r, c, g, l, ())
  · simp
  · simp only [Bool.not_true, cond_false, if_true]
    cases hk : knownS f
    · simp
    · simp only [Bool.not_true, cond_false, if_true]
      rw [eachH_eq (r, c, g, l, ()) (r, c, g, l, ()) f f s u hl hn]
      simp only [Option.bind_some, List.take_length]
      rfl
noncomputable def O_9e : Orc := orn
theorem okO_9e : OrcOk PR O_9e := (orn_ok _)
abbrev fa_9e : Fm := (.pair (.i .u8) (.pair (.i .u8) (.pair (.i .u8) (.pair (.i .u8) (.pair (.i .u64) .unit)))))
abbrev fr_9e : Fm := (.agg (.pair (.si .i64) (.pair (.i .i64) (.pair (.i .i64) (.pair (.i .i64) (.pair (.i .i64) (.pair (.i .i64) (.pair (.i .u32) (.pair (.i .u32) (.pair (.i .u32) (.pair (.i .u32) (.pair (.i .u32) (.pair (.i .u32) (.pair (.i .i64) (.pair (.i .i64) (.pair (.i .i64) (.pair (.i .i64) (.pair (.i .u64) (.pair (.i .u32) (.pair .b (.pair (.i .i64) (.pair (.i .i64) (.pair (.i .i64) (.pair (.i .i64) (.pair (.i .i64) (.pair (.i .i64) (.pair (.i .i64) .unit)))))))))))))))))))))))))))
noncomputable def F_9e (a0 : Int) (a1 : Int) (a2 : Int) (a3 : Int) (a4 : Int) : Option (List Int × Int × Int × Int × Int × Int × Int × Int × Int × Int × Int × Int × Int × Int × Int × Int × Int × Int × Bool × Int × Int × Int × Int × Int × Int × Int × Unit) :=
 let x0 : Nat := ((0:Nat) + ((Int.toNat (Int.tmod a0 (6:Int))) * (1:Nat)))
 let x1 : Int := (Int.tmod (IntKind.wrap .i64 a1) (3:Int))
 let x2 : Int := (IntKind.wrap .i64 (x1 + (Int.tmod (IntKind.wrap .i64 a0) (25:Int))))
 let x3 : Int := (IntKind.wrap .i64 ((IntKind.wrap .i64 (x2 - x1)) + (1:Int)))
 let x4 : Bool := (x3 == (0:Int))
 let x5 : Nat := ((0:Nat) + ((Int.toNat (Int.tmod a2 (4:Int))) * (1:Nat)))
 let x6 : Int := (Int.tmod (IntKind.wrap .i64 (IntKind.wrap .u8 (Int.tdiv a3 (3:Int)))) (4:Int))
 let x7 : List Int := [(2:Int), (2:Int)]
 bif (decide (((0:Int) ≤ (Int.tmod a0 (6:Int))) ∧ ((Int.tmod a0 (6:Int)) < (6:Int)))) then
 bif (Nat.beq x0 (0:Nat)) then
 bif (decide (((0:Int) ≤ (Int.tmod a2 (4:Int))) ∧ ((Int.tmod a2 (4:Int)) < (4:Int)))) then
 bif (decide (x5 < (4:Nat))) then
 bif (decide (((0:Int) ≤ (Int.tmod (IntKind.wrap .u8 (Int.tdiv a2 (4:Int))) (3:Int))) ∧ ((Int.tmod (IntKind.wrap .u8 (Int.tdiv a2 (4:Int))) (3:Int)) < (3:Int)))) then
 bif (decide (((0:Nat) + ((Int.toNat (Int.tmod (IntKind.wrap .u8 (Int.tdiv a2 (4:Int))) (3:Int))) * (1:Nat))) < (3:Nat))) then
 bif (decide (((0:Int) ≤ (Int.tmod (IntKind.wrap .u8 (Int.tdiv a2 (12:Int))) (2:Int))) ∧ ((Int.tmod (IntKind.wrap .u8 (Int.tdiv a2 (12:Int))) (2:Int)) < (2:Int)))) then
 bif (decide (((0:Nat) + ((Int.toNat (Int.tmod (IntKind.wrap .u8 (Int.tdiv a2 (12:Int))) (2:Int))) * (1:Nat))) < (2:Nat))) then
 bif (decide (((0:Int) ≤ (Int.tmod (IntKind.wrap .u8 (Int.tdiv a2 (24:Int))) (2:Int))) ∧ ((Int.tmod (IntKind.wrap .u8 (Int.tdiv a2 (24:Int))) (2:Int)) < (2:Int)))) then
 bif (decide (((0:Nat) + ((Int.toNat (Int.tmod (IntKind.wrap .u8 (Int.tdiv a2 (24:Int))) (2:Int))) * (1:Nat))) < (2:Nat))) then
 bif (decide (((0:Int) ≤ (Int.tmod (IntKind.wrap .u8 (Int.tdiv a2 (48:Int))) (2:Int))) ∧ ((Int.tmod (IntKind.wrap .u8 (Int.tdiv a2 (48:Int))) (2:Int)) < (2:Int)))) then
 bif (decide (((0:Nat) + ((Int.toNat (Int.tmod (IntKind.wrap .u8 (Int.tdiv a2 (48:Int))) (2:Int))) * (1:Nat))) < (2:Nat))) then
 bif (decide (((0:Int) ≤ (Int.tmod a3 (3:Int))) ∧ ((Int.tmod a3 (3:Int)) < (3:Int)))) then
 bif (decide (((0:Nat) + ((Int.toNat (Int.tmod a3 (3:Int))) * (1:Nat))) < (3:Nat))) then
 bif (decide (((0:Int) ≤ (Int.tmod a2 (4:Int))) ∧ ((Int.tmod a2 (4:Int)) < (4:Int)))) then
 bif (decide (x5 < (4:Nat))) then
 bif x4 then
 none
 else
 (some ([(2:Int), (3:Int)], ((Int.tmod (IntKind.wrap .i64 (IntKind.wrap .u8 (Int.tdiv a0 (6:Int)))) (3:Int)), ((Int.tmod (IntKind.wrap .i64 a1) (4:Int)), ((Int.tmod (IntKind.wrap .i64 (IntKind.wrap .u8 (Int.tdiv a1 (4:Int)))) (2:Int)), ((Int.tmod (IntKind.wrap .i64 (IntKind.wrap .u8 (Int.tdiv a1 (8:Int)))) (4:Int)), ((Int.tmod (IntKind.wrap .i64 (IntKind.wrap .u8 (Int.tdiv a1 (32:Int)))) (3:Int)), ((List.getD [(1008981770:Int), (1036831949:Int), (1065353216:Int), (981668463:Int)] x5 (0:Int)), ((List.getD [(0:Int), (1063675494:Int), (1056964608:Int)] ((0:Nat) + ((Int.toNat (Int.tmod (IntKind.wrap .u8 (Int.tdiv a2 (4:Int))) (3:Int))) * (1:Nat))) (0:Int)), ((List.getD [(1065336439:Int), (1063675494:Int)] ((0:Nat) + ((Int.toNat (Int.tmod (IntKind.wrap .u8 (Int.tdiv a2 (12:Int))) (2:Int))) * (1:Nat))) (0:Int)), ((List.getD [(841731191:Int), (981668463:Int)] ((0:Nat) + ((Int.toNat (Int.tmod (IntKind.wrap .u8 (Int.tdiv a2 (24:Int))) (2:Int))) * (1:Nat))) (0:Int)), ((List.getD [(0:Int), (1008981770:Int)] ((0:Nat) + ((Int.toNat (Int.tmod (IntKind.wrap .u8 (Int.tdiv a2 (48:Int))) (2:Int))) * (1:Nat))) (0:Int)), ((List.getD [(0:Int), (1065353216:Int), (1036831949:Int)] ((0:Nat) + ((Int.toNat (Int.tmod a3 (3:Int))) * (1:Nat))) (0:Int)), (x6, ((IntKind.wrap .i64 ((IntKind.wrap .i64 (x6 + (Int.tmod (IntKind.wrap .i64 a3) (17:Int)))) + (1:Int))), ((IntKind.wrap .i64 ((Int.tmod (IntKind.wrap .i64 (IntKind.wrap .u8 (Int.tdiv a3 (9:Int)))) (4:Int)) + (1:Int))), ((IntKind.wrap .i64 ((Int.tmod (IntKind.wrap .i64 (IntKind.wrap .u8 (Int.tdiv a3 (36:Int)))) (2:Int)) + (1:Int))), (a4, ((List.getD [(0:Int), (536870912:Int), (2147483647:Int), (0:Int)] x5 (0:Int)), (((Int.tmod a3 (5:Int)) == (0:Int)), ((IntKind.wrap .i64 (x1 + (Int.tmod (IntKind.wrap .i64 a2) x3))), (x1, (x2, ((IntKind.wrap .i64 (x1 + (1:Int))), ((IntKind.wrap .i64 ((Int.tmod (IntKind.wrap .i64 a2) (2:Int)) + (1:Int))), ((IntKind.wrap .i64 ((Int.tmod (IntKind.wrap .i64 a3) (3:Int)) + (1:Int))), ((Int.tmod (IntKind.wrap .i64 a0) (4:Int)), ())))))))))))))))))))))))))))
 else
 none
 else
 none
 else
 none
 else
 none
 else
 none
 else
 none
 else
 none
 else
 none
 else
 none
 else
 none
 else
 none
 else
 none
 else
 none
 else
 none
 else
 bif (Nat.beq x0 (1:Nat)) then
 bif (decide (((0:Int) ≤ (Int.tmod a2 (4:Int))) ∧ ((Int.tmod a2 (4:Int)) < (4:Int)))) then
 bif (decide (x5 < (4:Nat))) then
 bif (decide (((0:Int) ≤ (Int.tmod (IntKind.wrap .u8 (Int.tdiv a2 (4:Int))) (3:Int))) ∧ ((Int.tmod (IntKind.wrap .u8 (Int.tdiv a2 (4:Int))) (3:Int)) < (3:Int)))) then
 bif (decide (((0:Nat) + ((Int.toNat (Int.tmod (IntKind.wrap .u8 (Int.tdiv a2 (4:Int))) (3:Int))) * (1:Nat))) < (3:Nat))) then
 bif (decide (((0:Int) ≤ (Int.tmod (IntKind.wrap .u8 (Int.tdiv a2 (12:Int))) (2:Int))) ∧ ((Int.tmod (IntKind.wrap .u8 (Int.tdiv a2 (12:Int))) (2:Int)) < (2:Int)))) then
 bif (decide (((0:Nat) + ((Int.toNat (Int.tmod (IntKind.wrap .u8 (Int.tdiv a2 (12:Int))) (2:Int))) * (1:Nat))) < (2:Nat))) then
 bif (decide (((0:Int) ≤ (Int.tmod (IntKind.wrap .u8 (Int.tdiv a2 (24:Int))) (2:Int))) ∧ ((Int.tmod (IntKind.wrap .u8 (Int.tdiv a2 (24:Int))) (2:Int)) < (2:Int)))) then
 bif (decide (((0:Nat) + ((Int.toNat (Int.tmod (IntKind.wrap .u8 (Int.tdiv a2 (24:Int))) (2:Int))) * (1:Nat))) < (2:Nat))) then
 bif (decide (((0:Int) ≤ (Int.tmod (IntKind.wrap .u8 (Int.tdiv a2 (48:Int))) (2:Int))) ∧ ((Int.tmod (IntKind.wrap .u8 (Int.tdiv a2 (48:Int))) (2:Int)) < (2:Int)))) then
 bif (decide (((0:Nat) + ((Int.toNat (Int.tmod (IntKind.wrap .u8 (Int.tdiv a2 (48:Int))) (2:Int))) * (1:Nat))) < (2:Nat))) then
 bif (decide (((0:Int) ≤ (Int.tmod a3 (3:Int))) ∧ ((Int.tmod a3 (3:Int)) < (3:Int)))) then
 bif (decide (((0:Nat) + ((Int.toNat (Int.tmod a3 (3:Int))) * (1:Nat))) < (3:Nat))) then
 bif (decide (((0:Int) ≤ (Int.tmod a2 (4:Int))) ∧ ((Int.tmod a2 (4:Int)) < (4:Int)))) then
 bif (decide (x5 < (4:Nat))) then
 bif x4 then
 none
 else
 (some ([(3:Int), (2:Int), (2:Int)], ((Int.tmod (IntKind.wrap .i64 (IntKind.wrap .u8 (Int.tdiv a0 (6:Int)))) (3:Int)), ((Int.tmod (IntKind.wrap .i64 a1) (4:Int)), ((Int.tmod (IntKind.wrap .i64 (IntKind.wrap .u8 (Int.tdiv a1 (4:Int)))) (2:Int)), ((Int.tmod (IntKind.wrap .i64 (IntKind.wrap .u8 (Int.tdiv a1 (8:Int)))) (4:Int)), ((Int.tmod (IntKind.wrap .i64 (IntKind.wrap .u8 (Int.tdiv a1 (32:Int)))) (3:Int)), ((List.getD [(1008981770:Int), (1036831949:Int), (1065353216:Int), (981668463:Int)] x5 (0:Int)), ((List.getD [(0:Int), (1063675494:Int), (1056964608:Int)] ((0:Nat) + ((Int.toNat (Int.tmod (IntKind.wrap .u8 (Int.tdiv a2 (4:Int))) (3:Int))) * (1:Nat))) (0:Int)), ((List.getD [(1065336439:Int), (1063675494:Int)] ((0:Nat) + ((Int.toNat (Int.tmod (IntKind.wrap .u8 (Int.tdiv a2 (12:Int))) (2:Int))) * (1:Nat))) (0:Int)), ((List.getD [(841731191:Int), (981668463:Int)] ((0:Nat) + ((Int.toNat (Int.tmod (IntKind.wrap .u8 (Int.tdiv a2 (24:Int))) (2:Int))) * (1:Nat))) (0:Int)), ((List.getD [(0:Int), (1008981770:Int)] ((0:Nat) + ((Int.toNat (Int.tmod (IntKind.wrap .u8 (Int.tdiv a2 (48:Int))) (2:Int))) * (1:Nat))) (0:Int)), ((List.getD [(0:Int), (1065353216:Int), (1036831949:Int)] ((0:Nat) + ((Int.toNat (Int.tmod a3 (3:Int))) * (1:Nat))) (0:Int)), (x6, ((IntKind.wrap .i64 ((IntKind.wrap .i64 (x6 + (Int.tmod (IntKind.wrap .i64 a3) (17:Int)))) + (1:Int))), ((IntKind.wrap .i64 ((Int.tmod (IntKind.wrap .i64 (IntKind.wrap .u8 (Int.tdiv a3 (9:Int)))) (4:Int)) + (1:Int))), ((IntKind.wrap .i64 ((Int.tmod (IntKind.wrap .i64 (IntKind.wrap .u8 (Int.tdiv a3 (36:Int)))) (2:Int)) + (1:Int))), (a4, ((List.getD [(0:Int), (536870912:Int), (2147483647:Int), (0:Int)] x5 (0:Int)), (((Int.tmod a3 (5:Int)) == (0:Int)), ((IntKind.wrap .i64 (x1 + (Int.tmod (IntKind.wrap .i64 a2) x3))), (x1, (x2, ((IntKind.wrap .i64 (x1 + (1:Int))), ((IntKind.wrap .i64 ((Int.tmod (IntKind.wrap .i64 a2) (2:Int)) + (1:Int))), ((IntKind.wrap .i64 ((Int.tmod (IntKind.wrap .i64 a3) (3:Int)) + (1:Int))), ((Int.tmod (IntKind.wrap .i64 a0) (4:Int)), ())))))))))))))))))))))))))))
 else
 none
 else
 none
 else
 none
 else
 none
 else
 none
 else
 none
 else
 none
 else
 none
 else
 none
 else
 none
 else
 none
 else
 none
 else
 none
 else
 none
 else
 bif (Nat.beq x0 (2:Nat)) then
 bif (decide (((0:Int) ≤ (Int.tmod a2 (4:Int))) ∧ ((Int.tmod a2 (4:Int)) < (4:Int)))) then
 bif (decide (x5 < (4:Nat))) then
 bif (decide (((0:Int) ≤ (Int.tmod (IntKind.wrap .u8 (Int.tdiv a2 (4:Int))) (3:Int))) ∧ ((Int.tmod (IntKind.wrap .u8 (Int.tdiv a2 (4:Int))) (3:Int)) < (3:Int)))) then
 bif (decide (((0:Nat) + ((Int.toNat (Int.tmod (IntKind.wrap .u8 (Int.tdiv a2 (4:Int))) (3:Int))) * (1:Nat))) < (3:Nat))) then
 bif (decide (((0:Int) ≤ (Int.tmod (IntKind.wrap .u8 (Int.tdiv a2 (12:Int))) (2:Int))) ∧ ((Int.tmod (IntKind.wrap .u8 (Int.tdiv a2 (12:Int))) (2:Int)) < (2:Int)))) then
 bif (decide (((0:Nat) + ((Int.toNat (Int.tmod (IntKind.wrap .u8 (Int.tdiv a2 (12:Int))) (2:Int))) * (1:Nat))) < (2:Nat))) then
 bif (decide (((0:Int) ≤ (Int.tmod (IntKind.wrap .u8 (Int.tdiv a2 (24:Int))) (2:Int))) ∧ ((Int.tmod (IntKind.wrap .u8 (Int.tdiv a2 (24:Int))) (2:Int)) < (2:Int)))) then
 bif (decide (((0:Nat) + ((Int.toNat (Int.tmod (IntKind.wrap .u8 (Int.tdiv a2 (24:Int))) (2:Int))) * (1:Nat))) < (2:Nat))) then
 bif (decide (((0:Int) ≤ (Int.tmod (IntKind.wrap .u8 (Int.tdiv a2 (48:Int))) (2:Int))) ∧ ((Int.tmod (IntKind.wrap .u8 (Int.tdiv a2 (48:Int))) (2:Int)) < (2:Int)))) then
 bif (decide (((0:Nat) + ((Int.toNat (Int.tmod (IntKind.wrap .u8 (Int.tdiv a2 (48:Int))) (2:Int))) * (1:Nat))) < (2:Nat))) then
 bif (decide (((0:Int) ≤ (Int.tmod a3 (3:Int))) ∧ ((Int.tmod a3 (3:Int)) < (3:Int)))) then
 bif (decide (((0:Nat) + ((Int.toNat (Int.tmod a3 (3:Int))) * (1:Nat))) < (3:Nat))) then
 bif (decide (((0:Int) ≤ (Int.tmod a2 (4:Int))) ∧ ((Int.tmod a2 (4:Int)) < (4:Int)))) then
 bif (decide (x5 < (4:Nat))) then
 bif x4 then
 none
 else
 (some ([(2:Int), (4:Int), (3:Int)], ((Int.tmod (IntKind.wrap .i64 (IntKind.wrap .u8 (Int.tdiv a0 (6:Int)))) (3:Int)), ((Int.tmod (IntKind.wrap .i64 a1) (4:Int)), ((Int.tmod (IntKind.wrap .i64 (IntKind.wrap .u8 (Int.tdiv a1 (4:Int)))) (2:Int)), ((Int.tmod (IntKind.wrap .i64 (IntKind.wrap .u8 (Int.tdiv a1 (8:Int)))) (4:Int)), ((Int.tmod (IntKind.wrap .i64 (IntKind.wrap .u8 (Int.tdiv a1 (32:Int)))) (3:Int)), ((List.getD [(1008981770:Int), (1036831949:Int), (1065353216:Int), (981668463:Int)] x5 (0:Int)), ((List.getD [(0:Int), (1063675494:Int), (1056964608:Int)] ((0:Nat) + ((Int.toNat (Int.tmod (IntKind.wrap .u8 (Int.tdiv a2 (4:Int))) (3:Int))) * (1:Nat))) (0:Int)), ((List.getD [(1065336439:Int), (1063675494:Int)] ((0:Nat) + ((Int.toNat (Int.tmod (IntKind.wrap .u8 (Int.tdiv a2 (12:Int))) (2:Int))) * (1:Nat))) (0:Int)), ((List.getD [(841731191:Int), (981668463:Int)] ((0:Nat) + ((Int.toNat (Int.tmod (IntKind.wrap .u8 (Int.tdiv a2 (24:Int))) (2:Int))) * (1:Nat))) (0:Int)), ((List.getD [(0:Int), (1008981770:Int)] ((0:Nat) + ((Int.toNat (Int.tmod (IntKind.wrap .u8 (Int.tdiv a2 (48:Int))) (2:Int))) * (1:Nat))) (0:Int)), ((List.getD [(0:Int), (1065353216:Int), (1036831949:Int)] ((0:Nat) + ((Int.toNat (Int.tmod a3 (3:Int))) * (1:Nat))) (0:Int)), (x6, ((IntKind.wrap .i64 ((IntKind.wrap .i64 (x6 + (Int.tmod (IntKind.wrap .i64 a3) (17:Int)))) + (1:Int))), ((IntKind.wrap .i64 ((Int.tmod (IntKind.wrap .i64 (IntKind.wrap .u8 (Int.tdiv a3 (9:Int)))) (4:Int)) + (1:Int))), ((IntKind.wrap .i64 ((Int.tmod (IntKind.wrap .i64 (IntKind.wrap .u8 (Int.tdiv a3 (36:Int)))) (2:Int)) + (1:Int))), (a4, ((List.getD [(0:Int), (536870912:Int), (2147483647:Int), (0:Int)] x5 (0:Int)), (((Int.tmod a3 (5:Int)) == (0:Int)), ((IntKind.wrap .i64 (x1 + (Int.tmod (IntKind.wrap .i64 a2) x3))), (x1, (x2, ((IntKind.wrap .i64 (x1 + (1:Int))), ((IntKind.wrap .i64 ((Int.tmod (IntKind.wrap .i64 a2) (2:Int)) + (1:Int))), ((IntKind.wrap .i64 ((Int.tmod (IntKind.wrap .i64 a3) (3:Int)) + (1:Int))), ((Int.tmod (IntKind.wrap .i64 a0) (4:Int)), ())))))))))))))))))))))))))))
 else
 none
 else
 none
 else
 none
 else
 none
 else
 none
 else
 none
 else
 none
 else
 none
 else
 none
 else
 none
 else
 none
 else
 none
 else
 none
 else
 none
 else
 bif (Nat.beq x0 (3:Nat)) then
 bif (decide (((0:Int) ≤ (Int.tmod a2 (4:Int))) ∧ ((Int.tmod a2 (4:Int)) < (4:Int)))) then
 bif (decide (x5 < (4:Nat))) then
 bif (decide (((0:Int) ≤ (Int.tmod (IntKind.wrap .u8 (Int.tdiv a2 (4:Int))) (3:Int))) ∧ ((Int.tmod (IntKind.wrap .u8 (Int.tdiv a2 (4:Int))) (3:Int)) < (3:Int)))) then
 bif (decide (((0:Nat) + ((Int.toNat (Int.tmod (IntKind.wrap .u8 (Int.tdiv a2 (4:Int))) (3:Int))) * (1:Nat))) < (3:Nat))) then
 bif (decide (((0:Int) ≤ (Int.tmod (IntKind.wrap .u8 (Int.tdiv a2 (12:Int))) (2:Int))) ∧ ((Int.tmod (IntKind.wrap .u8 (Int.tdiv a2 (12:Int))) (2:Int)) < (2:Int)))) then
 bif (decide (((0:Nat) + ((Int.toNat (Int.tmod (IntKind.wrap .u8 (Int.tdiv a2 (12:Int))) (2:Int))) * (1:Nat))) < (2:Nat))) then
 bif (decide (((0:Int) ≤ (Int.tmod (IntKind.wrap .u8 (Int.tdiv a2 (24:Int))) (2:Int))) ∧ ((Int.tmod (IntKind.wrap .u8 (Int.tdiv a2 (24:Int))) (2:Int)) < (2:Int)))) then
 bif (decide (((0:Nat) + ((Int.toNat (Int.tmod (IntKind.wrap .u8 (Int.tdiv a2 (24:Int))) (2:Int))) * (1:Nat))) < (2:Nat))) then
 bif (decide (((0:Int) ≤ (Int.tmod (IntKind.wrap .u8 (Int.tdiv a2 (48:Int))) (2:Int))) ∧ ((Int.tmod (IntKind.wrap .u8 (Int.tdiv a2 (48:Int))) (2:Int)) < (2:Int)))) then
 bif (decide (((0:Nat) + ((Int.toNat (Int.tmod (IntKind.wrap .u8 (Int.tdiv a2 (48:Int))) (2:Int))) * (1:Nat))) < (2:Nat))) then
 bif (decide (((0:Int) ≤ (Int.tmod a3 (3:Int))) ∧ ((Int.tmod a3 (3:Int)) < (3:Int)))) then
 bif (decide (((0:Nat) + ((Int.toNat (Int.tmod a3 (3:Int))) * (1:Nat))) < (3:Nat))) then
 bif (decide (((0:Int) ≤ (Int.tmod a2 (4:Int))) ∧ ((Int.tmod a2 (4:Int)) < (4:Int)))) then
 bif (decide (x5 < (4:Nat))) then
 bif x4 then
 none
 else
 (some ([(1:Int), (2:Int), (2:Int), (2:Int)], ((Int.tmod (IntKind.wrap .i64 (IntKind.wrap .u8 (Int.tdiv a0 (6:Int)))) (3:Int)), ((Int.tmod (IntKind.wrap .i64 a1) (4:Int)), ((Int.tmod (IntKind.wrap .i64 (IntKind.wrap .u8 (Int.tdiv a1 (4:Int)))) (2:Int)), ((Int.tmod (IntKind.wrap .i64 (IntKind.wrap .u8 (Int.tdiv a1 (8:Int)))) (4:Int)), ((Int.tmod (IntKind.wrap .i64 (IntKind.wrap .u8 (Int.tdiv a1 (32:Int)))) (3:Int)), ((List.getD [(1008981770:Int), (1036831949:Int), (1065353216:Int), (981668463:Int)] x5 (0:Int)), ((List.getD [(0:Int), (1063675494:Int), (1056964608:Int)] ((0:Nat) + ((Int.toNat (Int.tmod (IntKind.wrap .u8 (Int.tdiv a2 (4:Int))) (3:Int))) * (1:Nat))) (0:Int)), ((List.getD [(1065336439:Int), (1063675494:Int)] ((0:Nat) + ((Int.toNat (Int.tmod (IntKind.wrap .u8 (Int.tdiv a2 (12:Int))) (2:Int))) * (1:Nat))) (0:Int)), ((List.getD [(841731191:Int), (981668463:Int)] ((0:Nat) + ((Int.toNat (Int.tmod (IntKind.wrap .u8 (Int.tdiv a2 (24:Int))) (2:Int))) * (1:Nat))) (0:Int)), ((List.getD [(0:Int), (1008981770:Int)] ((0:Nat) + ((Int.toNat (Int.tmod (IntKind.wrap .u8 (Int.tdiv a2 (48:Int))) (2:Int))) * (1:Nat))) (0:Int)), ((List.getD [(0:Int), (1065353216:Int), (1036831949:Int)] ((0:Nat) + ((Int.toNat (Int.tmod a3 (3:Int))) * (1:Nat))) (0:Int)), (x6, ((IntKind.wrap .i64 ((IntKind.wrap .i64 (x6 + (Int.tmod (IntKind.wrap .i64 a3) (17:Int)))) + (1:Int))), ((IntKind.wrap .i64 ((Int.tmod (IntKind.wrap .i64 (IntKind.wrap .u8 (Int.tdiv a3 (9:Int)))) (4:Int)) + (1:Int))), ((IntKind.wrap .i64 ((Int.tmod (IntKind.wrap .i64 (IntKind.wrap .u8 (Int.tdiv a3 (36:Int)))) (2:Int)) + (1:Int))), (a4, ((List.getD [(0:Int), (536870912:Int), (2147483647:Int), (0:Int)] x5 (0:Int)), (((Int.tmod a3 (5:Int)) == (0:Int)), ((IntKind.wrap .i64 (x1 + (Int.tmod (IntKind.wrap .i64 a2) x3))), (x1, (x2, ((IntKind.wrap .i64 (x1 + (1:Int))), ((IntKind.wrap .i64 ((Int.tmod (IntKind.wrap .i64 a2) (2:Int)) + (1:Int))), ((IntKind.wrap .i64 ((Int.tmod (IntKind.wrap .i64 a3) (3:Int)) + (1:Int))), ((Int.tmod (IntKind.wrap .i64 a0) (4:Int)), ())))))))))))))))))))))))))))
 else
 none
 else
 none
 else
 none
 else
 none
 else
 none
 else
 none
 else
 none
 else
 none
 else
 none
 else
 none
 else
 none
 else
 none
 else
 none
 else
 none
 else
 bif (Nat.beq x0 (4:Nat)) then
 bif (decide (((0:Int) ≤ (Int.tmod a2 (4:Int))) ∧ ((Int.tmod a2 (4:Int)) < (4:Int)))) then
 bif (decide (x5 < (4:Nat))) then
 bif (decide (((0:Int) ≤ (Int.tmod (IntKind.wrap .u8 (Int.tdiv a2 (4:Int))) (3:Int))) ∧ ((Int.tmod (IntKind.wrap .u8 (Int.tdiv a2 (4:Int))) (3:Int)) < (3:Int)))) then
 bif (decide (((0:Nat) + ((Int.toNat (Int.tmod (IntKind.wrap .u8 (Int.tdiv a2 (4:Int))) (3:Int))) * (1:Nat))) < (3:Nat))) then
 bif (decide (((0:Int) ≤ (Int.tmod (IntKind.wrap .u8 (Int.tdiv a2 (12:Int))) (2:Int))) ∧ ((Int.tmod (IntKind.wrap .u8 (Int.tdiv a2 (12:Int))) (2:Int)) < (2:Int)))) then
 bif (decide (((0:Nat) + ((Int.toNat (Int.tmod (IntKind.wrap .u8 (Int.tdiv a2 (12:Int))) (2:Int))) * (1:Nat))) < (2:Nat))) then
 bif (decide (((0:Int) ≤ (Int.tmod (IntKind.wrap .u8 (Int.tdiv a2 (24:Int))) (2:Int))) ∧ ((Int.tmod (IntKind.wrap .u8 (Int.tdiv a2 (24:Int))) (2:Int)) < (2:Int)))) then
 bif (decide (((0:Nat) + ((Int.toNat (Int.tmod (IntKind.wrap .u8 (Int.tdiv a2 (24:Int))) (2:Int))) * (1:Nat))) < (2:Nat))) then
 bif (decide (((0:Int) ≤ (Int.tmod (IntKind.wrap .u8 (Int.tdiv a2 (48:Int))) (2:Int))) ∧ ((Int.tmod (IntKind.wrap .u8 (Int.tdiv a2 (48:Int))) (2:Int)) < (2:Int)))) then
 bif (decide (((0:Nat) + ((Int.toNat (Int.tmod (IntKind.wrap .u8 (Int.tdiv a2 (48:Int))) (2:Int))) * (1:Nat))) < (2:Nat))) then
 bif (decide (((0:Int) ≤ (Int.tmod a3 (3:Int))) ∧ ((Int.tmod a3 (3:Int)) < (3:Int)))) then
 bif (decide (((0:Nat) + ((Int.toNat (Int.tmod a3 (3:Int))) * (1:Nat))) < (3:Nat))) then
 bif (decide (((0:Int) ≤ (Int.tmod a2 (4:Int))) ∧ ((Int.tmod a2 (4:Int)) < (4:Int)))) then
 bif (decide (x5 < (4:Nat))) then
 bif x4 then
 none
 else
 (some (x7, ((Int.tmod (IntKind.wrap .i64 (IntKind.wrap .u8 (Int.tdiv a0 (6:Int)))) (3:Int)), ((Int.tmod (IntKind.wrap .i64 a1) (4:Int)), ((Int.tmod (IntKind.wrap .i64 (IntKind.wrap .u8 (Int.tdiv a1 (4:Int)))) (2:Int)), ((Int.tmod (IntKind.wrap .i64 (IntKind.wrap .u8 (Int.tdiv a1 (8:Int)))) (4:Int)), ((Int.tmod (IntKind.wrap .i64 (IntKind.wrap .u8 (Int.tdiv a1 (32:Int)))) (3:Int)), ((List.getD [(1008981770:Int), (1036831949:Int), (1065353216:Int), (981668463:Int)] x5 (0:Int)), ((List.getD [(0:Int), (1063675494:Int), (1056964608:Int)] ((0:Nat) + ((Int.toNat (Int.tmod (IntKind.wrap .u8 (Int.tdiv a2 (4:Int))) (3:Int))) * (1:Nat))) (0:Int)), ((List.getD [(1065336439:Int), (1063675494:Int)] ((0:Nat) + ((Int.toNat (Int.tmod (IntKind.wrap .u8 (Int.tdiv a2 (12:Int))) (2:Int))) * (1:Nat))) (0:Int)), ((List.getD [(841731191:Int), (981668463:Int)] ((0:Nat) + ((Int.toNat (Int.tmod (IntKind.wrap .u8 (Int.tdiv a2 (24:Int))) (2:Int))) * (1:Nat))) (0:Int)), ((List.getD [(0:Int), (1008981770:Int)] ((0:Nat) + ((Int.toNat (Int.tmod (IntKind.wrap .u8 (Int.tdiv a2 (48:Int))) (2:Int))) * (1:Nat))) (0:Int)), ((List.getD [(0:Int), (1065353216:Int), (1036831949:Int)] ((0:Nat) + ((Int.toNat (Int.tmod a3 (3:Int))) * (1:Nat))) (0:Int)), (x6, ((IntKind.wrap .i64 ((IntKind.wrap .i64 (x6 + (Int.tmod (IntKind.wrap .i64 a3) (17:Int)))) + (1:Int))), ((IntKind.wrap .i64 ((Int.tmod (IntKind.wrap .i64 (IntKind.wrap .u8 (Int.tdiv a3 (9:Int)))) (4:Int)) + (1:Int))), ((IntKind.wrap .i64 ((Int.tmod (IntKind.wrap .i64 (IntKind.wrap .u8 (Int.tdiv a3 (36:Int)))) (2:Int)) + (1:Int))), (a4, ((List.getD [(0:Int), (536870912:Int), (2147483647:Int), (0:Int)] x5 (0:Int)), (((Int.tmod a3 (5:Int)) == (0:Int)), ((IntKind.wrap .i64 (x1 + (Int.tmod (IntKind.wrap .i64 a2) x3))), (x1, (x2, ((IntKind.wrap .i64 (x1 + (1:Int))), ((IntKind.wrap .i64 ((Int.tmod (IntKind.wrap .i64 a2) (2:Int)) + (1:Int))), ((IntKind.wrap .i64 ((Int.tmod (IntKind.wrap .i64 a3) (3:Int)) + (1:Int))), ((Int.tmod (IntKind.wrap .i64 a0) (4:Int)), ())))))))))))))))))))))))))))
 else
 none
 else
 none
 else
 none
 else
 none
 else
 none
 else
 none
 else
 none
 else
 none
 else
 none
 else
 none
 else
 none
 else
 none
 else
 none
 else
 none
 else
 bif (Nat.beq x0 (5:Nat)) then
 bif (decide (((0:Int) ≤ (Int.tmod a2 (4:Int))) ∧ ((Int.tmod a2 (4:Int)) < (4:Int)))) then
 bif (decide (x5 < (4:Nat))) then
 bif (decide (((0:Int) ≤ (Int.tmod (IntKind.wrap .u8 (Int.tdiv a2 (4:Int))) (3:Int))) ∧ ((Int.tmod (IntKind.wrap .u8 (Int.tdiv a2 (4:Int))) (3:Int)) < (3:Int)))) then
 bif (decide (((0:Nat) + ((Int.toNat (Int.tmod (IntKind.wrap .u8 (Int.tdiv a2 (4:Int))) (3:Int))) * (1:Nat))) < (3:Nat))) then
 bif (decide (((0:Int) ≤ (Int.tmod (IntKind.wrap .u8 (Int.tdiv a2 (12:Int))) (2:Int))) ∧ ((Int.tmod (IntKind.wrap .u8 (Int.tdiv a2 (12:Int))) (2:Int)) < (2:Int)))) then
 bif (decide (((0:Nat) + ((Int.toNat (Int.tmod (IntKind.wrap .u8 (Int.tdiv a2 (12:Int))) (2:Int))) * (1:Nat))) < (2:Nat))) then
 bif (decide (((0:Int) ≤ (Int.tmod (IntKind.wrap .u8 (Int.tdiv a2 (24:Int))) (2:Int))) ∧ ((Int.tmod (IntKind.wrap .u8 (Int.tdiv a2 (24:Int))) (2:Int)) < (2:Int)))) then
 bif (decide (((0:Nat) + ((Int.toNat (Int.tmod (IntKind.wrap .u8 (Int.tdiv a2 (24:Int))) (2:Int))) * (1:Nat))) < (2:Nat))) then
 bif (decide (((0:Int) ≤ (Int.tmod (IntKind.wrap .u8 (Int.tdiv a2 (48:Int))) (2:Int))) ∧ ((Int.tmod (IntKind.wrap .u8 (Int.tdiv a2 (48:Int))) (2:Int)) < (2:Int)))) then
 bif (decide (((0:Nat) + ((Int.toNat (Int.tmod (IntKind.wrap .u8 (Int.tdiv a2 (48:Int))) (2:Int))) * (1:Nat))) < (2:Nat))) then
 bif (decide (((0:Int) ≤ (Int.tmod a3 (3:Int))) ∧ ((Int.tmod a3 (3:Int)) < (3:Int)))) then
 bif (decide (((0:Nat) + ((Int.toNat (Int.tmod a3 (3:Int))) * (1:Nat))) < (3:Nat))) then
 bif (decide (((0:Int) ≤ (Int.tmod a2 (4:Int))) ∧ ((Int.tmod a2 (4:Int)) < (4:Int)))) then
 bif (decide (x5 < (4:Nat))) then
 bif x4 then
 none
 else
 (some ([(4:Int), (3:Int), (2:Int)], ((Int.tmod (IntKind.wrap .i64 (IntKind.wrap .u8 (Int.tdiv a0 (6:Int)))) (3:Int)), ((Int.tmod (IntKind.wrap .i64 a1) (4:Int)), ((Int.tmod (IntKind.wrap .i64 (IntKind.wrap .u8 (Int.tdiv a1 (4:Int)))) (2:Int)), ((Int.tmod (IntKind.wrap .i64 (IntKind.wrap .u8 (Int.tdiv a1 (8:Int)))) (4:Int)), ((Int.tmod (IntKind.wrap .i64 (IntKind.wrap .u8 (Int.tdiv a1 (32:Int)))) (3:Int)), ((List.getD [(1008981770:Int), (1036831949:Int), (1065353216:Int), (981668463:Int)] x5 (0:Int)), ((List.getD [(0:Int), (1063675494:Int), (1056964608:Int)] ((0:Nat) + ((Int.toNat (Int.tmod (IntKind.wrap .u8 (Int.tdiv a2 (4:Int))) (3:Int))) * (1:Nat))) (0:Int)), ((List.getD [(1065336439:Int), (1063675494:Int)] ((0:Nat) + ((Int.toNat (Int.tmod (IntKind.wrap .u8 (Int.tdiv a2 (12:Int))) (2:Int))) * (1:Nat))) (0:Int)), ((List.getD [(841731191:Int), (981668463:Int)] ((0:Nat) + ((Int.toNat (Int.tmod (IntKind.wrap .u8 (Int.tdiv a2 (24:Int))) (2:Int))) * (1:Nat))) (0:Int)), ((List.getD [(0:Int), (1008981770:Int)] ((0:Nat) + ((Int.toNat (Int.tmod (IntKind.wrap .u8 (Int.tdiv a2 (48:Int))) (2:Int))) * (1:Nat))) (0:Int)), ((List.getD [(0:Int), (1065353216:Int), (1036831949:Int)] ((0:Nat) + ((Int.toNat (Int.tmod a3 (3:Int))) * (1:Nat))) (0:Int)), (x6, ((IntKind.wrap .i64 ((IntKind.wrap .i64 (x6 + (Int.tmod (IntKind.wrap .i64 a3) (17:Int)))) + (1:Int))), ((IntKind.wrap .i64 ((Int.tmod (IntKind.wrap .i64 (IntKind.wrap .u8 (Int.tdiv a3 (9:Int)))) (4:Int)) + (1:Int))), ((IntKind.wrap .i64 ((Int.tmod (IntKind.wrap .i64 (IntKind.wrap .u8 (Int.tdiv a3 (36:Int)))) (2:Int)) + (1:Int))), (a4, ((List.getD [(0:Int), (536870912:Int), (2147483647:Int), (0:Int)] x5 (0:Int)), (((Int.tmod a3 (5:Int)) == (0:Int)), ((IntKind.wrap .i64 (x1 + (Int.tmod (IntKind.wrap .i64 a2) x3))), (x1, (x2, ((IntKind.wrap .i64 (x1 + (1:Int))), ((IntKind.wrap .i64 ((Int.tmod (IntKind.wrap .i64 a2) (2:Int)) + (1:Int))), ((IntKind.wrap .i64 ((Int.tmod (IntKind.wrap .i64 a3) (3:Int)) + (1:Int))), ((Int.tmod (IntKind.wrap .i64 a0) (4:Int)), ())))))))))))))))))))))))))))
 else
 none
 else
 none
 else
 none
 else
 none
 else
 none
 else
 none
 else
 none
 else
 none
 else
 none
 else
 none
 else
 none
 else
 none
 else
 none
 else
 none
 else
 bif (Nat.beq x0 (6:Nat)) then
 none
 else
 none
 else
 none
noncomputable def G_9e : T fa_9e → TH hN0 → Option (List Int × Int × Int × Int × Int × Int × Int × Int × Int × Int × Int × Int × Int × Int × Int × Int × Int × Int × Bool × Int × Int × Int × Int × Int × Int × Int × Unit) := fun x y => F_9e x.1 x.2.1 x.2.2.1 x.2.2.2.1 x.2.2.2.2.1
noncomputable def c_9e : Orc := ent i_9e [] 0 (sp fa_9e hN0 fr_9e hN0 G_9e (outN fr_9e))
theorem ok_9e : OrcOk PR c_9e := fnT okO_9e mixed p_9e (by kernel_rfl) (by kernel_rfl) (L := L0) (kp := false) (by kernel_rfl) (inn := (innN fr_9e)) (out := (outN fr_9e)) (fun _ _ => rfl) (loopsL (l := []) (by kernel_rfl) trivial) (fun x y => by kernel_rfl)
noncomputable def O_9f : Orc := c_910
theorem okO_9f : OrcOk PR O_9f := ok_910
abbrev fa_9f : Fm := (.pair (.si .i64) (.pair (.si .u32) (.pair .b .unit)))
abbrev fr_9f : Fm := (.sr (.pair (.pair (.i .i64) (.pair (.i .i64) (.pair (.i .i64) (.pair (.si .u32) .unit)))) (.pair (.pair (.i .i64) (.pair (.i .i64) (.pair (.i .i64) (.pair (.si .u32) .unit)))) .unit)) 8)
abbrev ff_9f_1 : Fm := (.pair (.si .i64) (.pair (.si .u32) (.pair .b (.us 4 (.pair (.own 0 1 0 8) (.pair (.i .i64) (.pair (.own 1 1 0 1) (.pair (.i .i64) (.us 49 .unit)))))))))
abbrev hf_9f_1 : List BF := [(.recs 1 y_97 true (.pair (.pair (.i .i64) (.pair (.i .i64) (.pair (.i .i64) (.pair (.si .u32) .unit)))) (.pair (.pair (.i .i64) (.pair (.i .i64) (.pair (.i .i64) (.pair (.si .u32) .unit)))) .unit)) 8), (.ints 1 y_91 true .u32)]
abbrev X_9f_1 : Xs := (.one (.exit 2) [0, 1, 2, 7, 8, 9] (.pair (.si .i64) (.pair (.si .u32) (.pair .b (.us 4 (.pair (.own 0 1 0 8) (.pair (.i .i64) (.pair (.own 1 1 0 1) (.us 50 .unit)))))))) [(.recs 1 y_97 true (.pair (.pair (.i .i64) (.pair (.i .i64) (.pair (.i .i64) (.pair (.si .u32) .unit)))) (.pair (.pair (.i .i64) (.pair (.i .i64) (.pair (.i .i64) (.pair (.si .u32) .unit)))) .unit)) 8), (.ints 1 y_91 true .u32)])
abbrev S_9f_1 : Type := T ff_9f_1 × TH hf_9f_1
abbrev E_9f_1 : Type := TX X_9f_1
noncomputable def LB_9f_1 : Lps := L0
noncomputable def st_9f_1 : StepT S_9f_1 E_9f_1 := fun R v kn ko =>
 let x0 : Nat := (List.length v.2.1)
 let x2 : Bool := ((allR x0 (fun j1 => true)) && true)
 let x3 : List Int := v.1.1
 let x4 : List Int := (List.take (List.length x3) x3)
 let x5 : List Int := v.1.2.1
 let x6 : List Int := (List.take (List.length x5) x5)
 let x7 : Bool := v.1.2.2.1
 let x8 : Nat := v.1.2.2.2.1
 let x9 : Int := v.1.2.2.2.2.1
 let x10 : Nat := v.1.2.2.2.2.2.1
 let x11 : Int := v.1.2.2.2.2.2.2.1
 let x13 : List (T (((Fm.i IntKind.i64).pair ((Fm.i IntKind.i64).pair ((Fm.i IntKind.i64).pair ((Fm.si IntKind.u32).pair Fm.unit)))).pair (((Fm.i IntKind.i64).pair ((Fm.i IntKind.i64).pair ((Fm.i IntKind.i64).pair ((Fm.si IntKind.u32).pair Fm.unit)))).pair Fm.unit))) := (rowsOf x0 (fun j12 => (((List.getD v.2.1 j12 (((0:Int), ((0:Int), ((0:Int), ([], ())))), (((0:Int), ((0:Int), ((0:Int), ([], ())))), ()))).1.1, ((List.getD v.2.1 j12 (((0:Int), ((0:Int), ((0:Int), ([], ())))), (((0:Int), ((0:Int), ((0:Int), ([], ())))), ()))).1.2.1, ((List.getD v.2.1 j12 (((0:Int), ((0:Int), ((0:Int), ([], ())))), (((0:Int), ((0:Int), ((0:Int), ([], ())))), ()))).1.2.2.1, ((List.take (List.length (List.getD v.2.1 j12 (((0:Int), ((0:Int), ((0:Int), ([], ())))), (((0:Int), ((0:Int), ((0:Int), ([], ())))), ()))).1.2.2.2.1) (List.getD v.2.1 j12 (((0:Int), ((0:Int), ((0:Int), ([], ())))), (((0:Int), ((0:Int), ((0:Int), ([], ())))), ()))).1.2.2.2.1), ())))), (((List.getD v.2.1 j12 (((0:Int), ((0:Int), ((0:Int), ([], ())))), (((0:Int), ((0:Int), ((0:Int), ([], ())))), ()))).2.1.1, ((List.getD v.2.1 j12 (((0:Int), ((0:Int), ((0:Int), ([], ())))), (((0:Int), ((0:Int), ((0:Int), ([], ())))), ()))).2.1.2.1, ((List.getD v.2.1 j12 (((0:Int), ((0:Int), ((0:Int), ([], ())))), (((0:Int), ((0:Int), ((0:Int), ([], ())))), ()))).2.1.2.2.1, ((List.take (List.length (List.getD v.2.1 j12 (((0:Int), ((0:Int), ((0:Int), ([], ())))), (((0:Int), ((0:Int), ((0:Int), ([], ())))), ()))).2.1.2.2.2.1) (List.getD v.2.1 j12 (((0:Int), ((0:Int), ((0:Int), ([], ())))), (((0:Int), ((0:Int), ((0:Int), ([], ())))), ()))).2.1.2.2.2.1), ())))), ()))))
 bif (decide (x11 < (((List.length x5) : Nat) : Int))) then
 bif (decide (((0:Int) ≤ x11) ∧ (x11 < (((List.length x5) : Nat) : Int)))) then
 bif (decide ((x10 + (1:Nat)) ≤ (1073741824:Nat))) then
 bif x2 then
 (kn ((x4, (x6, (x7, (x8, (x9, ((x10 + (1:Nat)), ((IntKind.wrap .i64 (x11 + (1:Int))), ()))))))), (x13, (((List.take x10 v.2.2.1) ++ [(IntKind.wrap .u32 ((List.getD x5 (Int.toNat x11) (0:Int)) + (IntKind.wrap .u32 ((IntKind.wrap .u32 x9) * (77:Int)))))]), ()))))
 else
 none
 else
 none
 else
 none
 else
 bif x2 then
 (ko ((x4, (x6, (x7, (x8, (x9, (x10, ())))))), (x13, v.2.2)))
 else
 none
noncomputable def ls_9f_1 : St → LTr := (lsum ff_9f_1 hf_9f_1 X_9f_1 Prod.mk id st_9f_1 (hd [(.pl 9, y_91, 0, .ints .u32)] [] [0, 1, 2, 7, 8, 9, 10] 0))
theorem lp_9f_1 : LoopOk PR 0 (lpN f_9f 1) ls_9f_1 := loopT okO_9f mixed (L := LB_9f_1) (d := 2) (bs := []) (ks := [0, 1, 2, 7, 8, 9, 10]) (loopsL (l := []) (by kernel_rfl) trivial) (by kernel_rfl) (inS := Prod.mk) (outS := id) (fun _ _ => rfl) (inX := id) (outX := id) (fun _ => rfl) (fun v R kn ko => by kernel_rfl) (hd_wk [(.pl 9, y_91, 0, .ints .u32)] [] [0, 1, 2, 7, 8, 9, 10] 0)
abbrev ff_9f_0 : Fm := (.pair (.si .i64) (.pair (.si .u32) (.pair .b (.us 4 (.pair (.own 0 1 0 8) (.pair (.i .i64) (.us 51 .unit)))))))
abbrev hf_9f_0 : List BF := [(.recs 1 y_97 true (.pair (.pair (.i .i64) (.pair (.i .i64) (.pair (.i .i64) (.pair (.si .u32) .unit)))) (.pair (.pair (.i .i64) (.pair (.i .i64) (.pair (.i .i64) (.pair (.si .u32) .unit)))) .unit)) 8)]
abbrev X_9f_0 : Xs := (.one (.exit 0) [7] (.us 7 (.pair (.own 0 1 0 8) (.us 52 .unit))) [(.recs 1 y_97 true (.pair (.pair (.i .i64) (.pair (.i .i64) (.pair (.i .i64) (.pair (.si .u32) .unit)))) (.pair (.pair (.i .i64) (.pair (.i .i64) (.pair (.i .i64) (.pair (.si .u32) .unit)))) .unit)) 8)])
abbrev S_9f_0 : Type := T ff_9f_0 × TH hf_9f_0
abbrev E_9f_0 : Type := TX X_9f_0
noncomputable def LB_9f_0 : Lps := (lpB 8 (.by_ ls_9f_1) L0)
noncomputable def st_9f_0 : StepT S_9f_0 E_9f_0 := fun R v kn ko =>
 let x0 : Nat := (List.length v.2.1)
 let x2 : Bool := ((allR x0 (fun j1 => true)) && true)
 let x3 : List Int := v.1.1
 let x4 : List Int := v.1.2.1
 let x5 : Nat := v.1.2.2.2.1
 let x7 : List (T (((Fm.i IntKind.i64).pair ((Fm.i IntKind.i64).pair ((Fm.i IntKind.i64).pair ((Fm.si IntKind.u32).pair Fm.unit)))).pair (((Fm.i IntKind.i64).pair ((Fm.i IntKind.i64).pair ((Fm.i IntKind.i64).pair ((Fm.si IntKind.u32).pair Fm.unit)))).pair Fm.unit))) := (rowsOf x0 (fun j6 => (((List.getD v.2.1 j6 (((0:Int), ((0:Int), ((0:Int), ([], ())))), (((0:Int), ((0:Int), ((0:Int), ([], ())))), ()))).1.1, ((List.getD v.2.1 j6 (((0:Int), ((0:Int), ((0:Int), ([], ())))), (((0:Int), ((0:Int), ((0:Int), ([], ())))), ()))).1.2.1, ((List.getD v.2.1 j6 (((0:Int), ((0:Int), ((0:Int), ([], ())))), (((0:Int), ((0:Int), ((0:Int), ([], ())))), ()))).1.2.2.1, ((List.take (List.length (List.getD v.2.1 j6 (((0:Int), ((0:Int), ((0:Int), ([], ())))), (((0:Int), ((0:Int), ((0:Int), ([], ())))), ()))).1.2.2.2.1) (List.getD v.2.1 j6 (((0:Int), ((0:Int), ((0:Int), ([], ())))), (((0:Int), ((0:Int), ((0:Int), ([], ())))), ()))).1.2.2.2.1), ())))), (((List.getD v.2.1 j6 (((0:Int), ((0:Int), ((0:Int), ([], ())))), (((0:Int), ((0:Int), ((0:Int), ([], ())))), ()))).2.1.1, ((List.getD v.2.1 j6 (((0:Int), ((0:Int), ((0:Int), ([], ())))), (((0:Int), ((0:Int), ((0:Int), ([], ())))), ()))).2.1.2.1, ((List.getD v.2.1 j6 (((0:Int), ((0:Int), ((0:Int), ([], ())))), (((0:Int), ((0:Int), ((0:Int), ([], ())))), ()))).2.1.2.2.1, ((List.take (List.length (List.getD v.2.1 j6 (((0:Int), ((0:Int), ((0:Int), ([], ())))), (((0:Int), ((0:Int), ((0:Int), ([], ())))), ()))).2.1.2.2.2.1) (List.getD v.2.1 j6 (((0:Int), ((0:Int), ((0:Int), ([], ())))), (((0:Int), ((0:Int), ((0:Int), ([], ())))), ()))).2.1.2.2.2.1), ())))), ()))))
 bif (decide ((IntKind.wrap .i64 (v.1.2.2.2.2.1 + (1:Int))) < (((List.length x3) : Nat) : Int))) then
 bif x2 then
 ((lim st_9f_1 (((List.take (List.length x3) x3), ((List.take (List.length x4) x4), (v.1.2.2.1, (x5, (v.1.2.2.2.2.1, ((0:Nat), ((0:Int), ()))))))), (x7, ([], ()))))).bind fun r8 =>
 let x9 : List Int := r8.1.1
 let x10 : Int := r8.1.2.2.2.2.1
 let x11 : Int := (IntKind.wrap .i64 (x10 + (1:Int)))
 let x12 : Int := (List.getD x9 (Int.toNat x11) (0:Int))
 let x13 : List Int := (List.take r8.1.2.2.2.2.2.1 (List.drop (0:Nat) r8.2.2.1))
 let x14 : Bool := r8.1.2.2.1
 let x15 : Nat := (r8.1.2.2.2.1 + (1:Nat))
 let x16 : List Int := r8.1.2.1
 bif (decide (((0:Int) ≤ x11) ∧ (x11 < (((List.length x9) : Nat) : Int)))) then
 bif (decide (((0:Int) ≤ x10) ∧ (x10 < (((List.length x9) : Nat) : Int)))) then
 ((F_910 x12 (List.getD x9 (Int.toNat x10) (0:Int)) (2:Int) x13 x14)).bind fun r17 =>
 bif (decide (((0:Int) ≤ x11) ∧ (x11 < (((List.length x9) : Nat) : Int)))) then
 ((F_910 (1:Int) x12 (2:Int) x13 x14)).bind fun r18 =>
 bif (decide (x15 ≤ (1073741824:Nat))) then
 bif ((allR x15 (fun j19 => true)) && true) then
 (kn (((List.take (List.length x9) x9), ((List.take (List.length x16) x16), (x14, (x15, (x11, ()))))), ((rowsOf x15 (fun j20 => (((bif (Nat.beq j20 (r8.1.2.2.2.1 + (0:Nat))) then r17.1 else (List.getD r8.2.1 j20 (((0:Int), ((0:Int), ((0:Int), ([], ())))), (((0:Int), ((0:Int), ((0:Int), ([], ())))), ()))).1.1), ((bif (Nat.beq j20 (r8.1.2.2.2.1 + (0:Nat))) then r17.2.1 else (List.getD r8.2.1 j20 (((0:Int), ((0:Int), ((0:Int), ([], ())))), (((0:Int), ((0:Int), ((0:Int), ([], ())))), ()))).1.2.1), ((bif (Nat.beq j20 (r8.1.2.2.2.1 + (0:Nat))) then r17.2.2.1 else (List.getD r8.2.1 j20 (((0:Int), ((0:Int), ((0:Int), ([], ())))), (((0:Int), ((0:Int), ((0:Int), ([], ())))), ()))).1.2.2.1), ((List.take (bif (Nat.beq j20 (r8.1.2.2.2.1 + (0:Nat))) then (List.length r17.2.2.2.1) else (List.length (List.getD r8.2.1 j20 (((0:Int), ((0:Int), ((0:Int), ([], ())))), (((0:Int), ((0:Int), ((0:Int), ([], ())))), ()))).1.2.2.2.1)) (bif (Nat.beq j20 (r8.1.2.2.2.1 + (0:Nat))) then r17.2.2.2.1 else (List.getD r8.2.1 j20 (((0:Int), ((0:Int), ((0:Int), ([], ())))), (((0:Int), ((0:Int), ((0:Int), ([], ())))), ()))).1.2.2.2.1)), ())))), (((bif (Nat.beq j20 (r8.1.2.2.2.1 + (0:Nat))) then r18.1 else (List.getD r8.2.1 j20 (((0:Int), ((0:Int), ((0:Int), ([], ())))), (((0:Int), ((0:Int), ((0:Int), ([], ())))), ()))).2.1.1), ((bif (Nat.beq j20 (r8.1.2.2.2.1 + (0:Nat))) then r18.2.1 else (List.getD r8.2.1 j20 (((0:Int), ((0:Int), ((0:Int), ([], ())))), (((0:Int), ((0:Int), ((0:Int), ([], ())))), ()))).2.1.2.1), ((bif (Nat.beq j20 (r8.1.2.2.2.1 + (0:Nat))) then r18.2.2.1 else (List.getD r8.2.1 j20 (((0:Int), ((0:Int), ((0:Int), ([], ())))), (((0:Int), ((0:Int), ((0:Int), ([], ())))), ()))).2.1.2.2.1), ((List.take (bif (Nat.beq j20 (r8.1.2.2.2.1 + (0:Nat))) then (List.length r18.2.2.2.1) else (List.length (List.getD r8.2.1 j20 (((0:Int), ((0:Int), ((0:Int), ([], ())))), (((0:Int), ((0:Int), ((0:Int), ([], ())))), ()))).2.1.2.2.2.1)) (bif (Nat.beq j20 (r8.1.2.2.2.1 + (0:Nat))) then r18.2.2.2.1 else (List.getD r8.2.1 j20 (((0:Int), ((0:Int), ((0:Int), ([], ())))), (((0:Int), ((0:Int), ((0:Int), ([], ())))), ()))).2.1.2.2.2.1)), ())))), ())))), ())))
 else
 none
 else
 none
 else
 none
 else
 none
 else
 none
 else
 none
 else
 bif x2 then
 (ko ((x5, ()), (x7, ())))
 else
 none
noncomputable def ls_9f_0 : St → LTr := (lsum ff_9f_0 hf_9f_0 X_9f_0 Prod.mk id st_9f_0 (hd [(.pl 7, y_97, 7, .recs)] [] [0, 1, 2, 7, 8] 0))
theorem lp_9f_0 : LoopOk PR 0 (lpN f_9f 0) ls_9f_0 := loopT okO_9f mixed (L := LB_9f_0) (d := 1) (bs := []) (ks := [0, 1, 2, 7, 8]) (loopsL (l := [((lpN f_9f 1), ls_9f_1)]) (by kernel_rfl) ⟨lp_9f_1, trivial⟩) (by kernel_rfl) (inS := Prod.mk) (outS := id) (fun _ _ => rfl) (inX := id) (outX := id) (fun _ => rfl) (fun v R kn ko => by kernel_rfl) (hd_wk [(.pl 7, y_97, 7, .recs)] [] [0, 1, 2, 7, 8] 0)
noncomputable def L_9f : Lps := (lpB 4 (.by_ ls_9f_0) (lpB 8 (.by_ ls_9f_1) L0))
noncomputable def F_9f (a0 : List Int) (a1 : List Int) (a2 : Bool) : Option (List ((Int × Int × Int × List Int × Unit) × (Int × Int × Int × List Int × Unit) × Unit)) :=
 ((lim st_9f_0 (((List.take (List.length a0) a0), ((List.take (List.length a1) a1), (a2, ((0:Nat), ((0:Int), ()))))), ([], ())))).bind fun r0 =>
 let x1 : Nat := r0.1.1
 bif ((allR x1 (fun j2 => true)) && true) then
 (some (rowsOf x1 (fun j3 => (((List.getD r0.2.1 j3 (((0:Int), ((0:Int), ((0:Int), ([], ())))), (((0:Int), ((0:Int), ((0:Int), ([], ())))), ()))).1.1, ((List.getD r0.2.1 j3 (((0:Int), ((0:Int), ((0:Int), ([], ())))), (((0:Int), ((0:Int), ((0:Int), ([], ())))), ()))).1.2.1, ((List.getD r0.2.1 j3 (((0:Int), ((0:Int), ((0:Int), ([], ())))), (((0:Int), ((0:Int), ((0:Int), ([], ())))), ()))).1.2.2.1, ((List.take (List.length (List.getD r0.2.1 j3 (((0:Int), ((0:Int), ((0:Int), ([], ())))), (((0:Int), ((0:Int), ((0:Int), ([], ())))), ()))).1.2.2.2.1) (List.getD r0.2.1 j3 (((0:Int), ((0:Int), ((0:Int), ([], ())))), (((0:Int), ((0:Int), ((0:Int), ([], ())))), ()))).1.2.2.2.1), ())))), (((List.getD r0.2.1 j3 (((0:Int), ((0:Int), ((0:Int), ([], ())))), (((0:Int), ((0:Int), ((0:Int), ([], ())))), ()))).2.1.1, ((List.getD r0.2.1 j3 (((0:Int), ((0:Int), ((0:Int), ([], ())))), (((0:Int), ((0:Int), ((0:Int), ([], ())))), ()))).2.1.2.1, ((List.getD r0.2.1 j3 (((0:Int), ((0:Int), ((0:Int), ([], ())))), (((0:Int), ((0:Int), ((0:Int), ([], ())))), ()))).2.1.2.2.1, ((List.take (List.length (List.getD r0.2.1 j3 (((0:Int), ((0:Int), ((0:Int), ([], ())))), (((0:Int), ((0:Int), ((0:Int), ([], ())))), ()))).2.1.2.2.2.1) (List.getD r0.2.1 j3 (((0:Int), ((0:Int), ((0:Int), ([], ())))), (((0:Int), ((0:Int), ((0:Int), ([], ())))), ()))).2.1.2.2.2.1), ())))), ())))))
 else
 none
noncomputable def G_9f : T fa_9f → TH hN0 → Option (List ((Int × Int × Int × List Int × Unit) × (Int × Int × Int × List Int × Unit) × Unit)) := fun x y => F_9f x.1 x.2.1 x.2.2.1
noncomputable def c_9f : Orc := ent i_9f [] 0 (sp fa_9f hN0 fr_9f hN0 G_9f (outN fr_9f))
theorem ok_9f : OrcOk PR c_9f := fnT okO_9f mixed p_9f (by kernel_rfl) (by kernel_rfl) (L := L_9f) (kp := false) (by kernel_rfl) (inn := (innN fr_9f)) (out := (outN fr_9f)) (fun _ _ => rfl) (loopsL (l := [((lpN f_9f 0), ls_9f_0)]) (by kernel_rfl) ⟨lp_9f_0, trivial⟩) (fun x y => by kernel_rfl)
noncomputable def O_9d : Orc := (orm c_9e (orm c_912 (orm c_911 c_915)))
theorem okO_9d : OrcOk PR O_9d := (orm_ok ok_9e (orm_ok ok_912 (orm_ok ok_911 ok_915)))
abbrev fa_9d : Fm := .unit
abbrev fr_9d : Fm := .b
noncomputable def F_9d  : Option (Bool) :=
 let x0 : List (T (((Fm.i IntKind.i64).pair ((Fm.i IntKind.i64).pair ((Fm.i IntKind.i64).pair ((Fm.si IntKind.u32).pair Fm.unit)))).pair (((Fm.i IntKind.i64).pair ((Fm.i IntKind.i64).pair ((Fm.i IntKind.i64).pair ((Fm.si IntKind.u32).pair Fm.unit)))).pair Fm.unit))) := [(((1:Int), ((1:Int), ((2:Int), ([(1073741824:Int)], ())))), (((1:Int), ((1:Int), ((2:Int), ([(1065353216:Int)], ())))), ()))]
 ((F_912 ([(1:Int), (1:Int)], ((0:Int), ((0:Int), ((0:Int), ((0:Int), ((0:Int), ((981668463:Int), ((0:Int), ((1065336439:Int), ((841731191:Int), ((0:Int), ((1065353216:Int), ((0:Int), ((2:Int), ((1:Int), ((1:Int), ((1:Int), ((0:Int), (false, ((3:Int), ((0:Int), ((4:Int), ((1:Int), ((2:Int), ((2:Int), ((0:Int), ())))))))))))))))))))))))))) x0 (0:Int))).bind fun r1 =>
 bif (((allR (List.length r1.1) (fun j2 => true)) && true) && true) then
 ((F_911 ([(1:Int), (1:Int)], ((0:Int), ((0:Int), ((0:Int), ((0:Int), ((0:Int), ((981668463:Int), ((0:Int), ((1065336439:Int), ((841731191:Int), ((0:Int), ((1065353216:Int), ((0:Int), ((2:Int), ((1:Int), ((1:Int), ((1:Int), ((0:Int), (false, ((3:Int), ((0:Int), ((4:Int), ((1:Int), ((2:Int), ((2:Int), ((0:Int), ())))))))))))))))))))))))))) x0 (rowsOf (List.length r1.1) (fun j3 => ((List.getD r1.1 j3 ((0:Int), ((0:Int), ((0:Int), ([], ()))))).1, ((List.getD r1.1 j3 ((0:Int), ((0:Int), ((0:Int), ([], ()))))).2.1, ((List.getD r1.1 j3 ((0:Int), ((0:Int), ((0:Int), ([], ()))))).2.2.1, ((List.take (List.length (List.getD r1.1 j3 ((0:Int), ((0:Int), ((0:Int), ([], ()))))).2.2.2.1) (List.getD r1.1 j3 ((0:Int), ((0:Int), ((0:Int), ([], ()))))).2.2.2.1), ())))))) ((1:Int), ((1:Int), ((0:Int), ([(16896:Int)], ())))) (0:Int))).bind fun r4 =>
 let x5 : Int := r4.2.2.1
 let x6 : List Int := r4.1.2.2.2.1
 let x7 : List (Int × Int × Int × List Int × Unit) := r4.2.1.1
 bif (r1.2.1 == (0:Int)) then
 bif (x5 == (0:Int)) then
 bif ((((List.length x6) : Nat) : Int) == (1:Int)) then
 bif (decide (((0:Int) ≤ (0:Int)) ∧ ((0:Int) < (((List.length x6) : Nat) : Int)))) then
 bif ((List.getD x6 (0:Nat) (0:Int)) == (18176:Int)) then
 bif ((((List.length x7) : Nat) : Int) == (1:Int)) then
 ((F_915 ([(1:Int), (1:Int)], ((0:Int), ((0:Int), ((0:Int), ((0:Int), ((0:Int), ((981668463:Int), ((0:Int), ((1065336439:Int), ((841731191:Int), ((0:Int), ((1065353216:Int), ((0:Int), ((2:Int), ((1:Int), ((1:Int), ((1:Int), ((0:Int), (false, ((3:Int), ((0:Int), ((4:Int), ((1:Int), ((2:Int), ((2:Int), ((0:Int), ())))))))))))))))))))))))))) x0)).bind fun r8 =>
 bif r8 then
 (some true)
 else
 (some false)
 else
 (some false)
 else
 (some false)
 else
 none
 else
 (some false)
 else
 (some false)
 else
 (some false)
 else
 none
noncomputable def G_9d : T fa_9d → TH hN0 → Option (Bool) := fun x y => F_9d
noncomputable def c_9d : Orc := ent i_9d [] 0 (sp fa_9d hN0 fr_9d hN0 G_9d (outN fr_9d))
theorem ok_9d : OrcOk PR c_9d := fnT okO_9d mixed p_9d (by kernel_rfl) (by kernel_rfl) (L := L0) (kp := false) (by kernel_rfl) (inn := (innN fr_9d)) (out := (outN fr_9d)) (fun _ _ => rfl) (loopsL (l := []) (by kernel_rfl) trivial) (fun x y => by kernel_rfl)
noncomputable def O_9b : Orc := (orm c_9d (orm c_9e (orm c_9f (orm c_912 (orm c_913 c_914)))))
theorem okO_9b : OrcOk PR O_9b := (orm_ok ok_9d (orm_ok ok_9e (orm_ok ok_9f (orm_ok ok_912 (orm_ok ok_913 ok_914)))))
abbrev fa_9b : Fm := (.pair (.i .u8) (.pair (.i .u8) (.pair (.si .u32) (.pair (.i .u64) (.pair (.i .i64) (.pair .b .unit))))))
abbrev fr_9b : Fm := .b
abbrev ff_9b_1 : Fm := (.us 5 (.pair .b (.us 7 (.cst (.ref 0 1 0) (.pair (.sr (.pair (.pair (.i .i64) (.pair (.i .i64) (.pair (.i .i64) (.pair (.si .u32) .unit)))) (.pair (.pair (.i .i64) (.pair (.i .i64) (.pair (.i .i64) (.pair (.si .u32) .unit)))) .unit)) 8) (.pair (.sr (.pair (.i .i64) (.pair (.i .i64) (.pair (.i .i64) (.pair (.si .u32) .unit)))) 4) (.us 1 (.pair (.i .i64) (.pair (.i .i64) (.us 154 .unit))))))))))
abbrev hf_9b_1 : List BF := [(.list 1 y_95 true (.pair (.si .i64) (.pair (.i .i64) (.pair (.i .i64) (.pair (.i .i64) (.pair (.i .i64) (.pair (.i .i64) (.pair (.i .u32) (.pair (.i .u32) (.pair (.i .u32) (.pair (.i .u32) (.pair (.i .u32) (.pair (.i .u32) (.pair (.i .i64) (.pair (.i .i64) (.pair (.i .i64) (.pair (.i .i64) (.pair (.i .u64) (.pair (.i .u32) (.pair .b (.pair (.i .i64) (.pair (.i .i64) (.pair (.i .i64) (.pair (.i .i64) (.pair (.i .i64) (.pair (.i .i64) (.pair (.i .i64) .unit)))))))))))))))))))))))))))]
abbrev X_9b_1 : Xs := (.alt (.exit 2) [5, 13, 14, 15, 17] (.us 5 (.pair .b (.us 7 (.cst (.ref 0 1 0) (.pair (.sr (.pair (.pair (.i .i64) (.pair (.i .i64) (.pair (.i .i64) (.pair (.si .u32) .unit)))) (.pair (.pair (.i .i64) (.pair (.i .i64) (.pair (.i .i64) (.pair (.si .u32) .unit)))) .unit)) 8) (.pair (.sr (.pair (.i .i64) (.pair (.i .i64) (.pair (.i .i64) (.pair (.si .u32) .unit)))) 4) (.us 1 (.pair (.i .i64) (.us 155 .unit))))))))) [(.list 1 y_95 true (.pair (.si .i64) (.pair (.i .i64) (.pair (.i .i64) (.pair (.i .i64) (.pair (.i .i64) (.pair (.i .i64) (.pair (.i .u32) (.pair (.i .u32) (.pair (.i .u32) (.pair (.i .u32) (.pair (.i .u32) (.pair (.i .u32) (.pair (.i .i64) (.pair (.i .i64) (.pair (.i .i64) (.pair (.i .i64) (.pair (.i .u64) (.pair (.i .u32) (.pair .b (.pair (.i .i64) (.pair (.i .i64) (.pair (.i .i64) (.pair (.i .i64) (.pair (.i .i64) (.pair (.i .i64) (.pair (.i .i64) .unit)))))))))))))))))))))))))))] (.one .ret [12] (.us 12 (.pair .b (.us 160 .unit))) []))
abbrev S_9b_1 : Type := T ff_9b_1 × TH hf_9b_1
abbrev E_9b_1 : Type := TX X_9b_1
noncomputable def LB_9b_1 : Lps := L0
noncomputable def st_9b_1 : StepT S_9b_1 E_9b_1 := fun R v kn ko =>
 let x0 : Int := v.2.1.2.1
 let x1 : List (T (((Fm.i IntKind.i64).pair ((Fm.i IntKind.i64).pair ((Fm.i IntKind.i64).pair ((Fm.si IntKind.u32).pair Fm.unit)))).pair (((Fm.i IntKind.i64).pair ((Fm.i IntKind.i64).pair ((Fm.i IntKind.i64).pair ((Fm.si IntKind.u32).pair Fm.unit)))).pair Fm.unit))) := v.1.2.1
 let x2 : Int := v.1.2.2.2.1
 let x3 : Nat := (Int.toNat x2)
 let x4 : Int := v.1.2.2.2.2.1
 let x5 : Nat := (Int.toNat x4)
 let x6 : Int := (List.getD (List.getD x1 x3 (((0:Int), ((0:Int), ((0:Int), ([], ())))), (((0:Int), ((0:Int), ((0:Int), ([], ())))), ()))).1.2.2.2.1 x5 (0:Int))
 let x7 : List (T ((Fm.i IntKind.i64).pair ((Fm.i IntKind.i64).pair ((Fm.i IntKind.i64).pair ((Fm.si IntKind.u32).pair Fm.unit))))) := v.1.2.2.1
 let x8 : Int := (List.getD (List.getD x7 x3 ((0:Int), ((0:Int), ((0:Int), ([], ()))))).2.2.2.1 x5 (0:Int))
 let x9 : Bool := v.1.1
 let x10 : Bool := (!x9)
 let x11 : Nat := (List.length x1)
 let x12 : Nat := (List.length x7)
 let x15 : Bool := (((allR x11 (fun j13 => true)) && ((allR x12 (fun j14 => true)) && true)) && true)
 let x17 : List (T (((Fm.i IntKind.i64).pair ((Fm.i IntKind.i64).pair ((Fm.i IntKind.i64).pair ((Fm.si IntKind.u32).pair Fm.unit)))).pair (((Fm.i IntKind.i64).pair ((Fm.i IntKind.i64).pair ((Fm.i IntKind.i64).pair ((Fm.si IntKind.u32).pair Fm.unit)))).pair Fm.unit))) := (rowsOf x11 (fun j16 => (((List.getD x1 j16 (((0:Int), ((0:Int), ((0:Int), ([], ())))), (((0:Int), ((0:Int), ((0:Int), ([], ())))), ()))).1.1, ((List.getD x1 j16 (((0:Int), ((0:Int), ((0:Int), ([], ())))), (((0:Int), ((0:Int), ((0:Int), ([], ())))), ()))).1.2.1, ((List.getD x1 j16 (((0:Int), ((0:Int), ((0:Int), ([], ())))), (((0:Int), ((0:Int), ((0:Int), ([], ())))), ()))).1.2.2.1, ((List.take (List.length (List.getD x1 j16 (((0:Int), ((0:Int), ((0:Int), ([], ())))), (((0:Int), ((0:Int), ((0:Int), ([], ())))), ()))).1.2.2.2.1) (List.getD x1 j16 (((0:Int), ((0:Int), ((0:Int), ([], ())))), (((0:Int), ((0:Int), ((0:Int), ([], ())))), ()))).1.2.2.2.1), ())))), (((List.getD x1 j16 (((0:Int), ((0:Int), ((0:Int), ([], ())))), (((0:Int), ((0:Int), ((0:Int), ([], ())))), ()))).2.1.1, ((List.getD x1 j16 (((0:Int), ((0:Int), ((0:Int), ([], ())))), (((0:Int), ((0:Int), ((0:Int), ([], ())))), ()))).2.1.2.1, ((List.getD x1 j16 (((0:Int), ((0:Int), ((0:Int), ([], ())))), (((0:Int), ((0:Int), ((0:Int), ([], ())))), ()))).2.1.2.2.1, ((List.take (List.length (List.getD x1 j16 (((0:Int), ((0:Int), ((0:Int), ([], ())))), (((0:Int), ((0:Int), ((0:Int), ([], ())))), ()))).2.1.2.2.2.1) (List.getD x1 j16 (((0:Int), ((0:Int), ((0:Int), ([], ())))), (((0:Int), ((0:Int), ((0:Int), ([], ())))), ()))).2.1.2.2.2.1), ())))), ()))))
 let x19 : List (T ((Fm.i IntKind.i64).pair ((Fm.i IntKind.i64).pair ((Fm.i IntKind.i64).pair ((Fm.si IntKind.u32).pair Fm.unit))))) := (rowsOf x12 (fun j18 => ((List.getD x7 j18 ((0:Int), ((0:Int), ((0:Int), ([], ()))))).1, ((List.getD x7 j18 ((0:Int), ((0:Int), ((0:Int), ([], ()))))).2.1, ((List.getD x7 j18 ((0:Int), ((0:Int), ((0:Int), ([], ()))))).2.2.1, ((List.take (List.length (List.getD x7 j18 ((0:Int), ((0:Int), ((0:Int), ([], ()))))).2.2.2.1) (List.getD x7 j18 ((0:Int), ((0:Int), ((0:Int), ([], ()))))).2.2.2.1), ()))))))
 let x20 : List Int := v.2.1.1
 bif (decide (((0:Int) ≤ x2) ∧ (x2 < ((x12 : Nat) : Int)))) then
 bif (decide (x4 < (((List.length (List.getD x7 x3 ((0:Int), ((0:Int), ((0:Int), ([], ()))))).2.2.2.1) : Nat) : Int))) then
 bif (decide (((0:Int) ≤ x2) ∧ (x2 < ((x11 : Nat) : Int)))) then
 bif (decide (((0:Int) ≤ x4) ∧ (x4 < (((List.length (List.getD x1 x3 (((0:Int), ((0:Int), ((0:Int), ([], ())))), (((0:Int), ((0:Int), ((0:Int), ([], ())))), ()))).1.2.2.2.1) : Nat) : Int)))) then
 ((F_913 (2:Int) x0 (3:Int) x6)).bind fun r21 =>
 bif (decide (((0:Int) ≤ x2) ∧ (x2 < ((x11 : Nat) : Int)))) then
 bif (decide (((0:Int) ≤ x4) ∧ (x4 < (((List.length (List.getD x1 x3 (((0:Int), ((0:Int), ((0:Int), ([], ())))), (((0:Int), ((0:Int), ((0:Int), ([], ())))), ()))).1.2.2.2.1) : Nat) : Int)))) then
 ((F_913 (2:Int) x0 (2:Int) x6)).bind fun r22 =>
 bif (decide (((0:Int) ≤ x2) ∧ (x2 < ((x12 : Nat) : Int)))) then
 bif (decide (((0:Int) ≤ x4) ∧ (x4 < (((List.length (List.getD x7 x3 ((0:Int), ((0:Int), ((0:Int), ([], ()))))).2.2.2.1) : Nat) : Int)))) then
 bif (x8 != r21.1) then
 bif (decide (((0:Int) ≤ x2) ∧ (x2 < ((x12 : Nat) : Int)))) then
 bif (decide (((0:Int) ≤ x4) ∧ (x4 < (((List.length (List.getD x7 x3 ((0:Int), ((0:Int), ((0:Int), ([], ()))))).2.2.2.1) : Nat) : Int)))) then
 bif (x8 != r22.1) then
 (ko (Sum.inr ((false, ()), ())))
 else
 bif x10 then
 bif (decide (((0:Int) ≤ x2) ∧ (x2 < ((x12 : Nat) : Int)))) then
 bif (decide (((0:Int) ≤ x4) ∧ (x4 < (((List.length (List.getD x7 x3 ((0:Int), ((0:Int), ((0:Int), ([], ()))))).2.2.2.1) : Nat) : Int)))) then
 bif (decide (((0:Int) ≤ x2) ∧ (x2 < ((x11 : Nat) : Int)))) then
 bif (decide (((0:Int) ≤ x4) ∧ (x4 < (((List.length (List.getD x1 x3 (((0:Int), ((0:Int), ((0:Int), ([], ())))), (((0:Int), ((0:Int), ((0:Int), ([], ())))), ()))).1.2.2.2.1) : Nat) : Int)))) then
 ((F_914 x0 x6)).bind fun r23 =>
 bif (x8 != r23) then
 (ko (Sum.inr ((false, ()), ())))
 else
 bif x15 then
 (kn ((x9, (x17, (x19, (x2, ((IntKind.wrap .i64 (x4 + (1:Int))), ()))))), (((List.take (List.length x20) x20), v.2.1.2), ())))
 else
 none
 else
 none
 else
 none
 else
 none
 else
 none
 else
 bif x15 then
 (kn ((x9, (x17, (x19, (x2, ((IntKind.wrap .i64 (x4 + (1:Int))), ()))))), (((List.take (List.length x20) x20), v.2.1.2), ())))
 else
 none
 else
 none
 else
 none
 else
 bif x10 then
 bif (decide (((0:Int) ≤ x2) ∧ (x2 < ((x12 : Nat) : Int)))) then
 bif (decide (((0:Int) ≤ x4) ∧ (x4 < (((List.length (List.getD x7 x3 ((0:Int), ((0:Int), ((0:Int), ([], ()))))).2.2.2.1) : Nat) : Int)))) then
 bif (decide (((0:Int) ≤ x2) ∧ (x2 < ((x11 : Nat) : Int)))) then
 bif (decide (((0:Int) ≤ x4) ∧ (x4 < (((List.length (List.getD x1 x3 (((0:Int), ((0:Int), ((0:Int), ([], ())))), (((0:Int), ((0:Int), ((0:Int), ([], ())))), ()))).1.2.2.2.1) : Nat) : Int)))) then
 ((F_914 x0 x6)).bind fun r24 =>
 bif (x8 != r24) then
 (ko (Sum.inr ((false, ()), ())))
 else
 bif x15 then
 (kn ((x9, (x17, (x19, (x2, ((IntKind.wrap .i64 (x4 + (1:Int))), ()))))), (((List.take (List.length x20) x20), v.2.1.2), ())))
 else
 none
 else
 none
 else
 none
 else
 none
 else
 none
 else
 bif x15 then
 (kn ((x9, (x17, (x19, (x2, ((IntKind.wrap .i64 (x4 + (1:Int))), ()))))), (((List.take (List.length x20) x20), v.2.1.2), ())))
 else
 none
 else
 none
 else
 none
 else
 none
 else
 none
 else
 none
 else
 none
 else
 bif x15 then
 (ko (Sum.inl ((x9, (x17, (x19, (x2, ())))), (((List.take (List.length x20) x20), v.2.1.2), ()))))
 else
 none
 else
 none
noncomputable def ls_9b_1 : St → LTr := (lsum ff_9b_1 hf_9b_1 X_9b_1 Prod.mk id st_9b_1 (hd [] [] [5, 13, 14, 15, 17, 18] 0))
theorem lp_9b_1 : LoopOk PR 0 (lpN f_9b 1) ls_9b_1 := loopT okO_9b mixed (L := LB_9b_1) (d := 2) (bs := []) (ks := [5, 13, 14, 15, 17, 18]) (loopsL (l := []) (by kernel_rfl) trivial) (by kernel_rfl) (inS := Prod.mk) (outS := id) (fun _ _ => rfl) (inX := id) (outX := id) (fun _ => rfl) (fun v R kn ko => by kernel_rfl) (hd_wk [] [] [5, 13, 14, 15, 17, 18] 0)
abbrev ff_9b_0 : Fm := (.us 5 (.pair .b (.us 7 (.cst (.ref 0 1 0) (.pair (.sr (.pair (.pair (.i .i64) (.pair (.i .i64) (.pair (.i .i64) (.pair (.si .u32) .unit)))) (.pair (.pair (.i .i64) (.pair (.i .i64) (.pair (.i .i64) (.pair (.si .u32) .unit)))) .unit)) 8) (.pair (.sr (.pair (.i .i64) (.pair (.i .i64) (.pair (.i .i64) (.pair (.si .u32) .unit)))) 4) (.us 1 (.pair (.i .i64) (.us 155 .unit)))))))))
abbrev hf_9b_0 : List BF := [(.list 1 y_95 true (.pair (.si .i64) (.pair (.i .i64) (.pair (.i .i64) (.pair (.i .i64) (.pair (.i .i64) (.pair (.i .i64) (.pair (.i .u32) (.pair (.i .u32) (.pair (.i .u32) (.pair (.i .u32) (.pair (.i .u32) (.pair (.i .u32) (.pair (.i .i64) (.pair (.i .i64) (.pair (.i .i64) (.pair (.i .i64) (.pair (.i .u64) (.pair (.i .u32) (.pair .b (.pair (.i .i64) (.pair (.i .i64) (.pair (.i .i64) (.pair (.i .i64) (.pair (.i .i64) (.pair (.i .i64) (.pair (.i .i64) .unit)))))))))))))))))))))))))))]
abbrev X_9b_0 : Xs := (.alt (.exit 0) [] (.us 173 .unit) [] (.one .ret [12] (.us 12 (.pair .b (.us 160 .unit))) []))
abbrev S_9b_0 : Type := T ff_9b_0 × TH hf_9b_0
abbrev E_9b_0 : Type := TX X_9b_0
noncomputable def LB_9b_0 : Lps := (lpB 18 (.by_ ls_9b_1) L0)
noncomputable def st_9b_0 : StepT S_9b_0 E_9b_0 := fun R v kn ko =>
 let x0 : List (T ((Fm.i IntKind.i64).pair ((Fm.i IntKind.i64).pair ((Fm.i IntKind.i64).pair ((Fm.si IntKind.u32).pair Fm.unit))))) := v.1.2.2.1
 let x1 : Int := v.1.2.2.2.1
 let x2 : Nat := (Int.toNat x1)
 let x3 : List (T (((Fm.i IntKind.i64).pair ((Fm.i IntKind.i64).pair ((Fm.i IntKind.i64).pair ((Fm.si IntKind.u32).pair Fm.unit)))).pair (((Fm.i IntKind.i64).pair ((Fm.i IntKind.i64).pair ((Fm.i IntKind.i64).pair ((Fm.si IntKind.u32).pair Fm.unit)))).pair Fm.unit))) := v.1.2.1
 let x4 : Nat := (List.length x3)
 let x5 : Nat := (List.length x0)
 let x6 : List Int := v.2.1.1
 bif (decide (x1 < ((x4 : Nat) : Int))) then
 bif (decide (((0:Int) ≤ x1) ∧ (x1 < ((x5 : Nat) : Int)))) then
 bif (decide (((0:Int) ≤ x1) ∧ (x1 < ((x4 : Nat) : Int)))) then
 bif ((((List.length (List.getD x0 x2 ((0:Int), ((0:Int), ((0:Int), ([], ()))))).2.2.2.1) : Nat) : Int) != (((List.length (List.getD x3 x2 (((0:Int), ((0:Int), ((0:Int), ([], ())))), (((0:Int), ((0:Int), ((0:Int), ([], ())))), ()))).1.2.2.2.1) : Nat) : Int)) then
 (ko (Sum.inr ((false, ()), ())))
 else
 bif (decide (((0:Int) ≤ x1) ∧ (x1 < ((x5 : Nat) : Int)))) then
 bif ((List.getD x0 x2 ((0:Int), ((0:Int), ((0:Int), ([], ()))))).2.2.1 != v.2.1.2.1) then
 (ko (Sum.inr ((false, ()), ())))
 else
 bif (((allR x4 (fun j7 => true)) && ((allR x5 (fun j8 => true)) && true)) && true) then
 ((lim st_9b_1 ((v.1.1, ((rowsOf x4 (fun j9 => (((List.getD x3 j9 (((0:Int), ((0:Int), ((0:Int), ([], ())))), (((0:Int), ((0:Int), ((0:Int), ([], ())))), ()))).1.1, ((List.getD x3 j9 (((0:Int), ((0:Int), ((0:Int), ([], ())))), (((0:Int), ((0:Int), ((0:Int), ([], ())))), ()))).1.2.1, ((List.getD x3 j9 (((0:Int), ((0:Int), ((0:Int), ([], ())))), (((0:Int), ((0:Int), ((0:Int), ([], ())))), ()))).1.2.2.1, ((List.take (List.length (List.getD x3 j9 (((0:Int), ((0:Int), ((0:Int), ([], ())))), (((0:Int), ((0:Int), ((0:Int), ([], ())))), ()))).1.2.2.2.1) (List.getD x3 j9 (((0:Int), ((0:Int), ((0:Int), ([], ())))), (((0:Int), ((0:Int), ((0:Int), ([], ())))), ()))).1.2.2.2.1), ())))), (((List.getD x3 j9 (((0:Int), ((0:Int), ((0:Int), ([], ())))), (((0:Int), ((0:Int), ((0:Int), ([], ())))), ()))).2.1.1, ((List.getD x3 j9 (((0:Int), ((0:Int), ((0:Int), ([], ())))), (((0:Int), ((0:Int), ((0:Int), ([], ())))), ()))).2.1.2.1, ((List.getD x3 j9 (((0:Int), ((0:Int), ((0:Int), ([], ())))), (((0:Int), ((0:Int), ((0:Int), ([], ())))), ()))).2.1.2.2.1, ((List.take (List.length (List.getD x3 j9 (((0:Int), ((0:Int), ((0:Int), ([], ())))), (((0:Int), ((0:Int), ((0:Int), ([], ())))), ()))).2.1.2.2.2.1) (List.getD x3 j9 (((0:Int), ((0:Int), ((0:Int), ([], ())))), (((0:Int), ((0:Int), ((0:Int), ([], ())))), ()))).2.1.2.2.2.1), ())))), ())))), ((rowsOf x5 (fun j10 => ((List.getD x0 j10 ((0:Int), ((0:Int), ((0:Int), ([], ()))))).1, ((List.getD x0 j10 ((0:Int), ((0:Int), ((0:Int), ([], ()))))).2.1, ((List.getD x0 j10 ((0:Int), ((0:Int), ((0:Int), ([], ()))))).2.2.1, ((List.take (List.length (List.getD x0 j10 ((0:Int), ((0:Int), ((0:Int), ([], ()))))).2.2.2.1) (List.getD x0 j10 ((0:Int), ((0:Int), ((0:Int), ([], ()))))).2.2.2.1), ())))))), (x1, ((0:Int), ()))))), (((List.take (List.length x6) x6), v.2.1.2), ())))).bind fun r11 =>
 els (fun l12 =>
 let x14 : List (T (((Fm.i IntKind.i64).pair ((Fm.i IntKind.i64).pair ((Fm.i IntKind.i64).pair ((Fm.si IntKind.u32).pair Fm.unit)))).pair (((Fm.i IntKind.i64).pair ((Fm.i IntKind.i64).pair ((Fm.i IntKind.i64).pair ((Fm.si IntKind.u32).pair Fm.unit)))).pair Fm.unit))) := l12.1.2.1
 let x15 : Nat := (List.length x14)
 let x16 : List (T ((Fm.i IntKind.i64).pair ((Fm.i IntKind.i64).pair ((Fm.i IntKind.i64).pair ((Fm.si IntKind.u32).pair Fm.unit))))) := l12.1.2.2.1
 let x17 : Nat := (List.length x16)
 let x18 : Int := l12.1.2.2.2.1
 let x19 : List Int := l12.2.1.1
 bif (((allR x15 (fun j20 => true)) && ((allR x17 (fun j21 => true)) && true)) && true) then
 (kn ((l12.1.1, ((rowsOf x15 (fun j22 => (((List.getD x14 j22 (((0:Int), ((0:Int), ((0:Int), ([], ())))), (((0:Int), ((0:Int), ((0:Int), ([], ())))), ()))).1.1, ((List.getD x14 j22 (((0:Int), ((0:Int), ((0:Int), ([], ())))), (((0:Int), ((0:Int), ((0:Int), ([], ())))), ()))).1.2.1, ((List.getD x14 j22 (((0:Int), ((0:Int), ((0:Int), ([], ())))), (((0:Int), ((0:Int), ((0:Int), ([], ())))), ()))).1.2.2.1, ((List.take (List.length (List.getD x14 j22 (((0:Int), ((0:Int), ((0:Int), ([], ())))), (((0:Int), ((0:Int), ((0:Int), ([], ())))), ()))).1.2.2.2.1) (List.getD x14 j22 (((0:Int), ((0:Int), ((0:Int), ([], ())))), (((0:Int), ((0:Int), ((0:Int), ([], ())))), ()))).1.2.2.2.1), ())))), (((List.getD x14 j22 (((0:Int), ((0:Int), ((0:Int), ([], ())))), (((0:Int), ((0:Int), ((0:Int), ([], ())))), ()))).2.1.1, ((List.getD x14 j22 (((0:Int), ((0:Int), ((0:Int), ([], ())))), (((0:Int), ((0:Int), ((0:Int), ([], ())))), ()))).2.1.2.1, ((List.getD x14 j22 (((0:Int), ((0:Int), ((0:Int), ([], ())))), (((0:Int), ((0:Int), ((0:Int), ([], ())))), ()))).2.1.2.2.1, ((List.take (List.length (List.getD x14 j22 (((0:Int), ((0:Int), ((0:Int), ([], ())))), (((0:Int), ((0:Int), ((0:Int), ([], ())))), ()))).2.1.2.2.2.1) (List.getD x14 j22 (((0:Int), ((0:Int), ((0:Int), ([], ())))), (((0:Int), ((0:Int), ((0:Int), ([], ())))), ()))).2.1.2.2.2.1), ())))), ())))), ((rowsOf x17 (fun j23 => ((List.getD x16 j23 ((0:Int), ((0:Int), ((0:Int), ([], ()))))).1, ((List.getD x16 j23 ((0:Int), ((0:Int), ((0:Int), ([], ()))))).2.1, ((List.getD x16 j23 ((0:Int), ((0:Int), ((0:Int), ([], ()))))).2.2.1, ((List.take (List.length (List.getD x16 j23 ((0:Int), ((0:Int), ((0:Int), ([], ()))))).2.2.2.1) (List.getD x16 j23 ((0:Int), ((0:Int), ((0:Int), ([], ()))))).2.2.2.1), ())))))), ((IntKind.wrap .i64 (x18 + (1:Int))), ())))), (((List.take (List.length x19) x19), l12.2.1.2), ())))
 else
 none) (fun r13 =>
 (ko (Sum.inr r13))) r11
 else
 none
 else
 none
 else
 none
 else
 none
 else
 (ko (Sum.inl ((), ())))
noncomputable def ls_9b_0 : St → LTr := (lsum ff_9b_0 hf_9b_0 X_9b_0 Prod.mk id st_9b_0 (hd [] [] [5, 13, 14, 15, 17] 0))
theorem lp_9b_0 : LoopOk PR 0 (lpN f_9b 0) ls_9b_0 := loopT okO_9b mixed (L := LB_9b_0) (d := 1) (bs := []) (ks := [5, 13, 14, 15, 17]) (loopsL (l := [((lpN f_9b 1), ls_9b_1)]) (by kernel_rfl) ⟨lp_9b_1, trivial⟩) (by kernel_rfl) (inS := Prod.mk) (outS := id) (fun _ _ => rfl) (inX := id) (outX := id) (fun _ => rfl) (fun v R kn ko => by kernel_rfl) (hd_wk [] [] [5, 13, 14, 15, 17] 0)
noncomputable def L_9b : Lps := (lpB 13 (.by_ ls_9b_0) (lpB 18 (.by_ ls_9b_1) L0))
noncomputable def F_9b (a0 : Int) (a1 : Int) (a2 : List Int) (a3 : Int) (a4 : Int) (a5 : Bool) : Option (Bool) :=
 (F_9d).bind fun r0 =>
 bif (!r0) then
 (some false)
 else
 bif (decide ((((List.length a2) : Nat) : Int) > (20:Int))) then
 (some true)
 else
 ((F_9e a0 a1 (1:Int) (1:Int) a3)).bind fun r1 =>
 let x2 : List Int := (List.take (List.length r1.1) r1.1)
 let x3 : Int := r1.2.2.1
 let x4 : Int := r1.2.2.2.1
 let x5 : Int := r1.2.2.2.2.1
 let x6 : Int := r1.2.2.2.2.2.1
 let x7 : Int := r1.2.2.2.2.2.2.1
 let x8 : Int := r1.2.2.2.2.2.2.2.1
 let x9 : Int := r1.2.2.2.2.2.2.2.2.1
 let x10 : Int := r1.2.2.2.2.2.2.2.2.2.1
 let x11 : Int := r1.2.2.2.2.2.2.2.2.2.2.1
 let x12 : Int := r1.2.2.2.2.2.2.2.2.2.2.2.1
 let x13 : Int := r1.2.2.2.2.2.2.2.2.2.2.2.2.1
 let x14 : Int := r1.2.2.2.2.2.2.2.2.2.2.2.2.2.1
 let x15 : Int := r1.2.2.2.2.2.2.2.2.2.2.2.2.2.2.1
 let x16 : Int := r1.2.2.2.2.2.2.2.2.2.2.2.2.2.2.2.1
 let x17 : Int := r1.2.2.2.2.2.2.2.2.2.2.2.2.2.2.2.2.1
 let x18 : Int := r1.2.2.2.2.2.2.2.2.2.2.2.2.2.2.2.2.2.1
 ((F_9f x2 (List.take (List.length a2) a2) true)).bind fun r19 =>
 let x21 : Bool := (allR (List.length r19) (fun j20 => true))
 let x23 : List (T (((Fm.i IntKind.i64).pair ((Fm.i IntKind.i64).pair ((Fm.i IntKind.i64).pair ((Fm.si IntKind.u32).pair Fm.unit)))).pair (((Fm.i IntKind.i64).pair ((Fm.i IntKind.i64).pair ((Fm.i IntKind.i64).pair ((Fm.si IntKind.u32).pair Fm.unit)))).pair Fm.unit))) := (rowsOf (List.length r19) (fun j22 => (((List.getD r19 j22 (((0:Int), ((0:Int), ((0:Int), ([], ())))), (((0:Int), ((0:Int), ((0:Int), ([], ())))), ()))).1.1, ((List.getD r19 j22 (((0:Int), ((0:Int), ((0:Int), ([], ())))), (((0:Int), ((0:Int), ((0:Int), ([], ())))), ()))).1.2.1, ((List.getD r19 j22 (((0:Int), ((0:Int), ((0:Int), ([], ())))), (((0:Int), ((0:Int), ((0:Int), ([], ())))), ()))).1.2.2.1, ((List.take (List.length (List.getD r19 j22 (((0:Int), ((0:Int), ((0:Int), ([], ())))), (((0:Int), ((0:Int), ((0:Int), ([], ())))), ()))).1.2.2.2.1) (List.getD r19 j22 (((0:Int), ((0:Int), ((0:Int), ([], ())))), (((0:Int), ((0:Int), ((0:Int), ([], ())))), ()))).1.2.2.2.1), ())))), (((List.getD r19 j22 (((0:Int), ((0:Int), ((0:Int), ([], ())))), (((0:Int), ((0:Int), ((0:Int), ([], ())))), ()))).2.1.1, ((List.getD r19 j22 (((0:Int), ((0:Int), ((0:Int), ([], ())))), (((0:Int), ((0:Int), ((0:Int), ([], ())))), ()))).2.1.2.1, ((List.getD r19 j22 (((0:Int), ((0:Int), ((0:Int), ([], ())))), (((0:Int), ((0:Int), ((0:Int), ([], ())))), ()))).2.1.2.2.1, ((List.take (List.length (List.getD r19 j22 (((0:Int), ((0:Int), ((0:Int), ([], ())))), (((0:Int), ((0:Int), ((0:Int), ([], ())))), ()))).2.1.2.2.2.1) (List.getD r19 j22 (((0:Int), ((0:Int), ((0:Int), ([], ())))), (((0:Int), ((0:Int), ((0:Int), ([], ())))), ()))).2.1.2.2.2.1), ())))), ()))))
 bif ((x21 && true) && true) then
 ((F_912 (x2, (r1.2.1, (x3, (x4, (x5, (x6, (x7, (x8, (x9, (x10, (x11, (x12, (x13, (x14, (x15, (x16, (x17, (x18, (a5, r1.2.2.2.2.2.2.2.2.2.2.2.2.2.2.2.2.2.2.2))))))))))))))))))) x23 a4)).bind fun r24 =>
 bif (r24.2.1 != (0:Int)) then
 (some false)
 else
 bif ((((List.length r24.1) : Nat) : Int) != (((List.length r19) : Nat) : Int)) then
 (some false)
 else
 bif ((x21 && ((allR (List.length r24.1) (fun j25 => true)) && true)) && true) then
 ((lim st_9b_0 ((a5, (x23, ((rowsOf (List.length r24.1) (fun j26 => ((List.getD r24.1 j26 ((0:Int), ((0:Int), ((0:Int), ([], ()))))).1, ((List.getD r24.1 j26 ((0:Int), ((0:Int), ((0:Int), ([], ()))))).2.1, ((List.getD r24.1 j26 ((0:Int), ((0:Int), ((0:Int), ([], ()))))).2.2.1, ((List.take (List.length (List.getD r24.1 j26 ((0:Int), ((0:Int), ((0:Int), ([], ()))))).2.2.2.1) (List.getD r24.1 j26 ((0:Int), ((0:Int), ((0:Int), ([], ()))))).2.2.2.1), ())))))), ((0:Int), ())))), ((x2, (r1.2.1, (x3, (x4, (x5, (x6, (x7, (x8, (x9, (x10, (x11, (x12, (x13, (x14, (x15, (x16, (x17, (x18, (a5, r1.2.2.2.2.2.2.2.2.2.2.2.2.2.2.2.2.2.2.2))))))))))))))))))), ())))).bind fun r27 =>
 els (fun l28 =>
 (some true)) (fun r29 =>
 (some r29.1.1)) r27
 else
 none
 else
 none
noncomputable def G_9b : T fa_9b → TH hN0 → Option (Bool) := fun x y => F_9b x.1 x.2.1 x.2.2.1 x.2.2.2.1 x.2.2.2.2.1 x.2.2.2.2.2.1
noncomputable def c_9b : Orc := ent i_9b [] 0 (sp fa_9b hN0 fr_9b hN0 G_9b (outN fr_9b))
theorem ok_9b : OrcOk PR c_9b := fnT okO_9b mixed p_9b (by kernel_rfl) (by kernel_rfl) (L := L_9b) (kp := false) (by kernel_rfl) (inn := (innN fr_9b)) (out := (outN fr_9b)) (fun _ _ => rfl) (loopsL (l := [((lpN f_9b 0), ls_9b_0)]) (by kernel_rfl) ⟨lp_9b_0, trivial⟩) (fun x y => by kernel_rfl)
def wlist (k : Int) : List Int := if k = 0 then [2, 3] else if k = 1 then [3, 2, 2] else if k = 2 then [2, 4, 3] else if k = 3 then [1, 2, 2, 2] else if k = 4 then [2, 2] else [4, 3, 2]
abbrev CfgT : Type := List Int × Int × Int × Int × Int × Int × Int × Int × Int × Int × Int × Int × Int × Int × Int × Int × Int × Int × Bool × Int × Int × Int × Int × Int × Int × Int × Unit
def cfg (a b c d s : Int) : CfgT :=
  (wlist (a % 6), (a / 6) % 3, b % 4, (b / 4) % 2, (b / 8) % 4, (b / 32) % 3, [1008981770, 1036831949, 1065353216, 981668463].getD (c % 4).toNat 0, [0, 1063675494, 1056964608].getD (c / 4 % 3).toNat 0, [1065336439, 1063675494].getD (c / 12 % 2).toNat 0,
    [841731191, 981668463].getD (c / 24 % 2).toNat 0, [0, 1008981770].getD (c / 48 % 2).toNat 0, [0, 1065353216, 1036831949].getD (d % 3).toNat 0, (d / 3) % 4, (d / 3) % 4 + d % 17 + 1, (d / 9) % 4 + 1, (d / 36) % 2 + 1, s, [0, 536870912, 2147483647, 0].getD (c % 4).toNat 0, d % 5 == 0,
    b % 3 + c % (a % 25 + 1), b % 3, b % 3 + a % 25, b % 3 + 1, c % 2 + 1, d % 3 + 1, a % 4, ())
theorem cfg_eq {a b c d s : Int} (ha : 0 ≤ a ∧ a ≤ 255) (hb : 0 ≤ b ∧ b ≤ 255) (hc : 0 ≤ c ∧ c ≤ 255) (hd : 0 ≤ d ∧ d ≤ 255) : F_9e a b c d s = some (cfg a b c d s) := by
  have e0 : Int.tmod a 6 = a % 6 := tmod_nn ha.1
  have e1 : IntKind.i64.wrap b = b := wi64 (by omega)
  have e2 : IntKind.i64.wrap a = a := wi64 (by omega)
  have e3 : IntKind.i64.wrap c = c := wi64 (by omega)
  have e4 : IntKind.i64.wrap d = d := wi64 (by omega)
  have e5 : Int.tmod b 3 = b % 3 := tmod_nn hb.1
  have e6 : Int.tmod a 25 = a % 25 := tmod_nn ha.1
  have e7 : IntKind.i64.wrap (b % 3 + a % 25) = b % 3 + a % 25 := wi64 (by omega)
  have e8 : IntKind.i64.wrap (b % 3 + a % 25 - b % 3) = a % 25 := by rw [wi64 (by omega)]; omega
  have e9 : IntKind.i64.wrap (a % 25 + 1) = a % 25 + 1 := wi64 (by omega)
  have e10 : Int.tmod c 4 = c % 4 := tmod_nn hc.1
  have e11 : IntKind.i64.wrap (IntKind.u8.wrap (Int.tdiv d 3)) = d / 3 := by rw [tdiv_nn hd.1, wu8 (by omega), wi64 (by omega)]
  have e12 : Int.tmod (d / 3) 4 = d / 3 % 4 := tmod_nn (by omega)
  have e13 : IntKind.u8.wrap (Int.tdiv c 4) = c / 4 := by rw [tdiv_nn hc.1, wu8 (by omega)]
  have e14 : Int.tmod (c / 4) 3 = c / 4 % 3 := tmod_nn (by omega)
  have e15 : IntKind.u8.wrap (Int.tdiv c 12) = c / 12 := by rw [tdiv_nn hc.1, wu8 (by omega)]
  have e16 : Int.tmod (c / 12) 2 = c / 12 % 2 := tmod_nn (by omega)
  have e17 : IntKind.u8.wrap (Int.tdiv c 24) = c / 24 := by rw [tdiv_nn hc.1, wu8 (by omega)]
  have e18 : Int.tmod (c / 24) 2 = c / 24 % 2 := tmod_nn (by omega)
  have e19 : IntKind.u8.wrap (Int.tdiv c 48) = c / 48 := by rw [tdiv_nn hc.1, wu8 (by omega)]
  have e20 : Int.tmod (c / 48) 2 = c / 48 % 2 := tmod_nn (by omega)
  have e21 : Int.tmod d 3 = d % 3 := tmod_nn hd.1
  have e22 : IntKind.i64.wrap (IntKind.u8.wrap (Int.tdiv a 6)) = a / 6 := by rw [tdiv_nn ha.1, wu8 (by omega), wi64 (by omega)]
  have e23 : Int.tmod (a / 6) 3 = a / 6 % 3 := tmod_nn (by omega)
  have e24 : Int.tmod b 4 = b % 4 := tmod_nn hb.1
  have e25 : IntKind.i64.wrap (IntKind.u8.wrap (Int.tdiv b 4)) = b / 4 := by rw [tdiv_nn hb.1, wu8 (by omega), wi64 (by omega)]
  have e26 : Int.tmod (b / 4) 2 = b / 4 % 2 := tmod_nn (by omega)
  have e27 : IntKind.i64.wrap (IntKind.u8.wrap (Int.tdiv b 8)) = b / 8 := by rw [tdiv_nn hb.1, wu8 (by omega), wi64 (by omega)]
  have e28 : Int.tmod (b / 8) 4 = b / 8 % 4 := tmod_nn (by omega)
  have e29 : IntKind.i64.wrap (IntKind.u8.wrap (Int.tdiv b 32)) = b / 32 := by rw [tdiv_nn hb.1, wu8 (by omega), wi64 (by omega)]
  have e30 : Int.tmod (b / 32) 3 = b / 32 % 3 := tmod_nn (by omega)
  have e31 : Int.tmod d 17 = d % 17 := tmod_nn hd.1
  have e32 : IntKind.i64.wrap (IntKind.i64.wrap (d / 3 % 4 + d % 17) + 1) = d / 3 % 4 + d % 17 + 1 := by rw [wi64 (n := d / 3 % 4 + d % 17) (by omega), wi64 (by omega)]
  have e33 : IntKind.i64.wrap (IntKind.u8.wrap (Int.tdiv d 9)) = d / 9 := by rw [tdiv_nn hd.1, wu8 (by omega), wi64 (by omega)]
  have e34 : Int.tmod (d / 9) 4 = d / 9 % 4 := tmod_nn (by omega)
  have e35 : IntKind.i64.wrap (d / 9 % 4 + 1) = d / 9 % 4 + 1 := wi64 (by omega)
  have e36 : IntKind.i64.wrap (IntKind.u8.wrap (Int.tdiv d 36)) = d / 36 := by rw [tdiv_nn hd.1, wu8 (by omega), wi64 (by omega)]
  have e37 : Int.tmod (d / 36) 2 = d / 36 % 2 := tmod_nn (by omega)
  have e38 : IntKind.i64.wrap (d / 36 % 2 + 1) = d / 36 % 2 + 1 := wi64 (by omega)
  have e39 : Int.tmod d 5 = d % 5 := tmod_nn hd.1
  have e40 : Int.tmod c (a % 25 + 1) = c % (a % 25 + 1) := tmod_nn hc.1
  have hm : 0 ≤ c % (a % 25 + 1) ∧ c % (a % 25 + 1) < a % 25 + 1 := ⟨Int.emod_nonneg _ (by omega), Int.emod_lt_of_pos _ (by omega)⟩
  have e41 : IntKind.i64.wrap (b % 3 + c % (a % 25 + 1)) = b % 3 + c % (a % 25 + 1) := wi64 (by omega)
  have e42 : IntKind.i64.wrap (b % 3 + 1) = b % 3 + 1 := wi64 (by omega)
  have e43 : Int.tmod c 2 = c % 2 := tmod_nn hc.1
  have e44 : IntKind.i64.wrap (c % 2 + 1) = c % 2 + 1 := wi64 (by omega)
  have e45 : IntKind.i64.wrap (d % 3 + 1) = d % 3 + 1 := wi64 (by omega)
  have e46 : Int.tmod a 4 = a % 4 := tmod_nn ha.1
  have h0 : (a % 25 + 1 == 0) = false := by simp; omega
  have g1 : ∀ (x : Int) (n : Int), (0 ≤ x % n ∧ x % n < n) = (0 ≤ x % n ∧ x % n < n) := fun _ _ => rfl
  have c1 : (0 ≤ a % 6 ∧ a % 6 < 6) = True := by simp; omega
  have c2 : (0 ≤ c % 4 ∧ c % 4 < 4) = True := by simp; omega
  have c3 : (0 ≤ c / 4 % 3 ∧ c / 4 % 3 < 3) = True := by simp; omega
  have c4 : (0 ≤ c / 12 % 2 ∧ c / 12 % 2 < 2) = True := by simp; omega
  have c5 : (0 ≤ c / 24 % 2 ∧ c / 24 % 2 < 2) = True := by simp; omega
  have c6 : (0 ≤ c / 48 % 2 ∧ c / 48 % 2 < 2) = True := by simp; omega
  have c7 : (0 ≤ d % 3 ∧ d % 3 < 3) = True := by simp; omega
  have z : ∀ n : Nat, 0 + n * 1 = n := fun n => by omega
  have t1 : ((c % 4).toNat < 4) = True := by simp; omega
  have t2 : ((c / 4 % 3).toNat < 3) = True := by simp; omega
  have t3 : ((c / 12 % 2).toNat < 2) = True := by simp; omega
  have t4 : ((c / 24 % 2).toNat < 2) = True := by simp; omega
  have t5 : ((c / 48 % 2).toNat < 2) = True := by simp; omega
  have t6 : ((d % 3).toNat < 3) = True := by simp; omega
  unfold F_9e
  simp only [e0, e1, e2, e3, e4, e5, e6, e7, e8, e9, e10, e11, e12, e13, e14, e15, e16, e17, e18, e19, e20, e21, e22, e23, e24, e25, e26, e27, e28, e29, e30, e31, e32, e33, e34, e35, e36, e37, e38, e39, e40, e41, e42, e43, e44, e45, e46, h0, c1, c2, c3, c4, c5, c6, c7, z, t1, t2, t3, t4, t5, t6, decide_true, cond_true, cond_false, bif_beq]
  unfold cfg wlist
  have : a % 6 = 0 ∨ a % 6 = 1 ∨ a % 6 = 2 ∨ a % 6 = 3 ∨ a % 6 = 4 ∨ a % 6 = 5 := by omega
  rcases this with h | h | h | h | h | h <;> simp [h]
abbrev PaT : Type := TsT × TsT × Unit
def dT : TsT := (0, 0, 0, [], ())
def dP : PaT := (dT, dT, ())
def tkN (t : TsT) : TsT := (t.1, (t.2.1, (t.2.2.1, ((List.take (List.length t.2.2.2.1) t.2.2.2.1), ()))))
theorem tkN_id (t : TsT) : tkN t = t := by unfold tkN; rw [List.take_length]
def tkP (p : PaT) : PaT := (tkN p.1, tkN p.2.1, ())
theorem tkP_id (p : PaT) : tkP p = p := by unfold tkP; rw [tkN_id, tkN_id]
def putR (b : Bool) (t u : TsT) : TsT := ((bif b then t.1 else u.1), ((bif b then t.2.1 else u.2.1), ((bif b then t.2.2.1 else u.2.2.1), ((List.take (bif b then (List.length t.2.2.2.1) else (List.length u.2.2.2.1)) (bif b then t.2.2.2.1 else u.2.2.2.1)), ()))))
theorem putR_eq (b : Bool) (t u : TsT) : putR b t u = bif b then t else u := by
  cases b
  · exact tkN_id u
  · exact tkN_id t
theorem rowsOf_id {α : Type} (l : List α) (d : α) : rowsOf l.length (fun j => l.getD j d) = l := by
  apply List.ext_getElem
  · simp [rowsOf]
  · intro k h1 h2
    simp [rowsOf, List.getD, h2]
def rowsT (l : List TsT) : List TsT := rowsOf l.length (fun j => tkN (l.getD j dT))
theorem rowsT_id (l : List TsT) : rowsT l = l := by
  unfold rowsT
  simp only [tkN_id]
  exact rowsOf_id l dT
def rowsP (l : List PaT) : List PaT := rowsOf l.length (fun j => tkP (l.getD j dP))
theorem rowsP_id (l : List PaT) : rowsP l = l := by
  unfold rowsP
  simp only [tkP_id]
  exact rowsOf_id l dP
def addR (n : Nat) (t : TsT) (W : List TsT) : List TsT := rowsOf (n + 1) (fun j => putR (Nat.beq j (n + 0)) t (W.getD j dT))
theorem addR_eq {n : Nat} (t : TsT) {W : List TsT} (h : W.length = n) : addR n t W = W ++ [t] := by
  unfold addR
  simp only [putR_eq]
  apply List.ext_getElem
  · simp [rowsOf, h]
  · intro k h1 h2
    have hk : k < n + 1 := by simpa [rowsOf] using h1
    simp only [rowsOf, List.getElem_map, List.getElem_range]
    by_cases e : k = n
    · subst e
      rw [show Nat.beq k (k + 0) = true from Nat.beq_refl _]
      rw [List.getElem_append_right (by omega)]
      simp [h]
    · have : Nat.beq k (n + 0) = false := by
        rw [Bool.eq_false_iff]; intro z; exact e (Nat.eq_of_beq_eq_true z)
      rw [this, List.getElem_append_left (by omega)]
      simp [List.getD, show k < W.length by omega]
def strm (b micro i : Int) : Int := IntKind.wrap .u32 ((IntKind.wrap .u32 (b + (IntKind.wrap .u32 ((IntKind.wrap .u32 micro) * (64:Int))))) + (IntKind.wrap .u32 i))
def tkc (c : CfgT) : CfgT := (List.take (List.length c.1) c.1, c.2)
theorem tkc_id (c : CfgT) : tkc c = c := by unfold tkc; rw [List.take_length]
def cFmt (c : CfgT) : Int := c.2.1
def cSeed (c : CfgT) : Int := c.2.2.2.2.2.2.2.2.2.2.2.2.2.2.2.2.1
def cChance (c : CfgT) : Bool := c.2.2.2.2.2.2.2.2.2.2.2.2.2.2.2.2.2.2.1
theorem lowSt (micro : Int) (n : Nat) (p : List PaT) (N i : Int) (c : CfgT) (W : List TsT) (R : Type) (kn : S_912_0 → Option R) (ko : E_912_0 → Option R) :
    st_912_0 R ((micro, (n, (p, (N, (i, ()))))), (c, (W, ()))) kn ko =
      bif (decide (i < N)) then
        bif (decide (((0:Int) ≤ i) ∧ (i < (((List.length p) : Nat) : Int)))) then
          (F_925 (tkN (p.getD (Int.toNat i) dP).1) (cFmt c)).bind fun r =>
          bif cChance c then
            (F_926 (tkN (p.getD (Int.toNat i) dP).1) (cFmt c) (cSeed c) (strm 1073741824 micro i)).bind fun s =>
            bif (s.2.1 != (0:Int)) then ko (Sum.inr (s.2, ()))
            else
              bif (decide (n + 1 ≤ 1073741824)) then
                bif (((allR (List.length p) (fun _ => true)) && true) && ((allR (n + 1) (fun _ => true)) && true)) then
                  kn ((micro, (n + 1, (rowsP p, (N, (IntKind.wrap .i64 (i + 1), ()))))), (tkc c, (addR n s.1 W, ())))
                else none
              else none
          else
            bif (r.2.1 != (0:Int)) then ko (Sum.inr (r.2, ()))
            else
              bif (decide (n + 1 ≤ 1073741824)) then
                bif (((allR (List.length p) (fun _ => true)) && true) && ((allR (n + 1) (fun _ => true)) && true)) then
                  kn ((micro, (n + 1, (rowsP p, (N, (IntKind.wrap .i64 (i + 1), ()))))), (tkc c, (addR n r.1 W, ())))
                else none
              else none
        else none
      else
        bif ((allR (List.length W) (fun _ => true)) && true) then ko (Sum.inl ((n, ()), (rowsT W, ()))) else none := by kernel_rfl
noncomputable def lowOne (c : CfgT) (micro i : Int) (w : TsT) : TsT := if cChance c = true then (chT w (cFmt c) (cSeed c) (strm 1073741824 micro i)).1 else (castT w (cFmt c)).1
def okT1 (t : TsT) : Prop := rightS t = true ∧ wl t.2.2.2.1 ∧ t.2.2.2.1.length ≤ 1073741824
noncomputable def lowL (c : CfgT) (micro : Int) (p : List PaT) (n : Nat) : List TsT := (List.range n).map (fun (i : Nat) => lowOne c micro (i : Int) (p.getD i dP).1)
theorem low_loop (c : CfgT) (micro : Int) (p : List PaT) (hN : p.length ≤ 1000000) (hp : ∀ i, i < p.length → okT1 (p.getD i dP).1) (hk : knownS (cFmt c) = true) :
    lim st_912_0 ((micro, ((0 : Nat), (p, ((p.length : Int), ((0 : Int), ()))))), (c, ([], ()))) = some (Sum.inl ((p.length, ()), (lowL c micro p p.length, ()))) :=
  lim_seq (st := st_912_0) (fun (i : Nat) => ((micro, (i, (p, ((p.length : Int), ((i : Int), ()))))), (c, (lowL c micro p i, ())))) p.length
    (fun i hi R kn ko => by
      obtain ⟨h1, h2, h3⟩ := hp i hi
      have hl : (lowL c micro p i).length = i := by simp [lowL]
      have hs : lowL c micro p (i + 1) = lowL c micro p i ++ [lowOne c micro (i : Int) (p.getD i dP).1] := by unfold lowL; rw [List.range_succ, List.map_append]; rfl
      show st_912_0 R ((micro, (i, (p, ((p.length : Int), ((i : Int), ()))))), (c, (lowL c micro p i, ()))) kn ko = kn ((micro, (i + 1, (p, ((p.length : Int), (((i + 1 : Nat) : Int), ()))))), (c, (lowL c micro p (i + 1), ())))
      rw [lowSt, hs]
      simp only [bif_dec, allR_true, Bool.and_true, cond_true, rowsP_id, tkc_id, tkN_id, Int.toNat_natCast]
      rw [if_pos (show (i : Int) < (p.length : Int) by omega), if_pos (show (0 : Int) ≤ (i : Int) ∧ (i : Int) < (p.length : Int) by omega), cast_eq _ _ h2 h3]
      simp only [Option.bind_some]
      unfold lowOne
      rw [show ((i + 1 : Nat) : Int) = (i : Int) + 1 by omega]
      cases hc : cChance c
      · have e : (castT (p.getD i dP).1 (cFmt c)).2.1 = 0 := by unfold castT; rw [if_pos h1, if_pos hk]
        simp only [cond_false, e, bne_self_eq_false]
        rw [if_pos (show i + 1 ≤ 1073741824 by omega), addR_eq _ hl, wi64 (n := (i : Int) + 1) (by omega)]
        simp
      · rw [chanceT_eq _ _ _ _ h2 h3]
        have e : (chT (p.getD i dP).1 (cFmt c) (cSeed c) (strm 1073741824 micro i)).2.1 = 0 := by unfold chT; rw [if_pos h1, if_pos hk]
        simp only [cond_true, Option.bind_some, cond_false, e, bne_self_eq_false]
        rw [if_pos (show i + 1 ≤ 1073741824 by omega), addR_eq _ hl, wi64 (n := (i : Int) + 1) (by omega)]
        simp)
    (fun R kn ko => by
      have hl : (lowL c micro p p.length).length = p.length := by simp [lowL]
      show st_912_0 R ((micro, (p.length, (p, ((p.length : Int), ((p.length : Int), ()))))), (c, (lowL c micro p p.length, ()))) kn ko = _
      rw [lowSt]
      simp only [bif_dec, allR_true, Bool.and_true, cond_true, rowsT_id]
      rw [if_neg (show ¬ (p.length : Int) < (p.length : Int) by omega)])
def shp1 (t : TsT) (r c f : Int) : Bool := decide (t.1 = r) && (decide (t.2.1 = c) && (decide (t.2.2.1 = f) && rightS t))
theorem shaped_eq (t : TsT) (r c f : Int) (h2 : wl t.2.2.2.1) (h3 : t.2.2.2.1.length ≤ 1073741824) : F_920 t r c f = some (shp1 t r c f) := by
  unfold F_920 shp1
  dsimp only
  rw [show ((t.1, (t.2.1, (t.2.2.1, ((List.take (List.length t.2.2.2.1) t.2.2.2.1), ())))) : TsT) = t from tkN_id t, right_eq t h2 (by omega)]
  simp only [bif_eq]
  by_cases a : t.1 = r
  · by_cases b : t.2.1 = c
    · by_cases d : t.2.2.1 = f
      · rw [if_pos a, if_pos b, if_pos d]; simp [a, b, d]
      · rw [if_pos a, if_pos b, if_neg d]; simp [a, b, d]
    · rw [if_pos a, if_neg b]; simp [a, b]
  · rw [if_neg a]; simp [a]
def repP (p : PaT) : List TsT := [tkN p.1, tkN p.2.1]
def tkL (l : List TsT) : List TsT := [tkN (l.getD 0 dT), tkN (l.getD 1 dT)]
theorem shapeSt (rows : List (List TsT)) (N i : Int) (c : CfgT) (R : Type) (kn : S_915_0 → Option R) (ko : E_915_0 → Option R) :
    st_915_0 R ((rows, (N, (i, ()))), (c, ())) kn ko =
      bif (decide (i < N)) then
        bif (decide (((0:Int) ≤ i) ∧ (i < (((List.length rows) : Nat) : Int)))) then
          bif (decide (((0:Int) ≤ i) ∧ (i < (((List.length c.1) : Nat) : Int)))) then
            bif (decide (((0:Int) ≤ (IntKind.wrap .i64 (i + 1))) ∧ ((IntKind.wrap .i64 (i + 1)) < (((List.length c.1) : Nat) : Int)))) then
              (F_920 (tkN ((rows.getD (Int.toNat i) []).getD 0 dT)) (c.1.getD (Int.toNat (IntKind.wrap .i64 (i + 1))) 0) (c.1.getD (Int.toNat i) 0) 2).bind fun a =>
              bif (!a) then ko (Sum.inr ((false, ()), ()))
              else
                (F_920 (tkN ((rows.getD (Int.toNat i) []).getD 1 dT)) 1 (c.1.getD (Int.toNat (IntKind.wrap .i64 (i + 1))) 0) 2).bind fun b =>
                bif (!b) then ko (Sum.inr ((false, ()), ()))
                else
                  bif (((allR (List.length rows) (fun _ => true)) && true) && true) then
                    kn ((rowsOf rows.length (fun j => tkL (rows.getD j [])), (N, (IntKind.wrap .i64 (i + 1), ()))), (tkc c, ()))
                  else none
            else none
          else none
        else none
      else ko (Sum.inl ((), ())) := by kernel_rfl
theorem shapeF (c : CfgT) (p : List PaT) : F_915 c p =
    bif ((((List.length p) : Nat) : Int) != (IntKind.wrap .i64 ((((List.length (List.take (List.length c.1) c.1)) : Nat) : Int) - (1:Int)))) then some false
    else
      bif (((allR (List.length p) (fun _ => true)) && true) && true) then
        (lim st_915_0 ((rowsOf p.length (fun j => repP (p.getD j dP)), ((((List.length p) : Nat) : Int), ((0 : Int), ()))), (tkc c, ()))).bind fun r => els (fun _ => some true) (fun r5 => some r5.1.1) r
      else none := by kernel_rfl
def shpP (c : CfgT) (p : List PaT) (i : Nat) : Bool := shp1 (p.getD i dP).1 (c.1.getD (i + 1) 0) (c.1.getD i 0) 2 && shp1 (p.getD i dP).2.1 1 (c.1.getD (i + 1) 0) 2
def okP (x : PaT) : Prop := (wl x.1.2.2.2.1 ∧ x.1.2.2.2.1.length ≤ 1073741824) ∧ wl x.2.1.2.2.2.1 ∧ x.2.1.2.2.2.1.length ≤ 1073741824
theorem shape_ok (c : CfgT) (p : List PaT) (hN : p.length + 1 = c.1.length) (hc : c.1.length ≤ 1000) (hw : ∀ i, i < p.length → okP (p.getD i dP)) (hs : ∀ i, i < p.length → shpP c p i = true) : F_915 c p = some true := by
  rw [shapeF, List.take_length, wi64 (n := (c.1.length : Int) - 1) (by omega), show (c.1.length : Int) - 1 = ((p.length : Nat) : Int) by omega]
  simp only [bne_self_eq_false, cond_false, allR_true, Bool.and_true, cond_true, tkc_id]
  have rl : (rowsOf p.length (fun j => repP (p.getD j dP))).length = p.length := rowsOf_len _ _
  have rr : ∀ i, i < p.length → (rowsOf p.length (fun j => repP (p.getD j dP))).getD i [] = [(p.getD i dP).1, (p.getD i dP).2.1] := fun i hi => by
    rw [rowsOf_get hi]; unfold repP; rw [tkN_id, tkN_id]
  generalize rowsOf p.length (fun j => repP (p.getD j dP)) = rows at rl rr ⊢
  have rs : rowsOf rows.length (fun j => tkL (rows.getD j [])) = rows := by
    apply List.ext_getElem
    · simp [rowsOf]
    · intro k h1 h2
      have hk : k < p.length := by omega
      have := rr k hk
      simp only [rowsOf, List.getElem_map, List.getElem_range]
      rw [this]
      have e : rows.getD k [] = rows[k] := by simp [List.getD, h2]
      rw [← e, this]
      unfold tkL
      simp [tkN_id]
  rw [rl] at rs
  have key : lim st_915_0 ((rows, ((((List.length p) : Nat) : Int), ((0 : Int), ()))), (c, ())) = some (Sum.inl ((), ())) :=
    lim_seq (st := st_915_0) (fun (i : Nat) => ((rows, ((((List.length p) : Nat) : Int), ((i : Int), ()))), (c, ()))) p.length
      (fun i hi R kn ko => by
        show st_915_0 R ((rows, ((((List.length p) : Nat) : Int), ((i : Int), ()))), (c, ())) kn ko = kn ((rows, ((((List.length p) : Nat) : Int), (((i + 1 : Nat) : Int), ()))), (c, ()))
        have hs' := hs i hi
        unfold shpP at hs'
        simp only [Bool.and_eq_true] at hs'
        have hw' := hw i hi
        have ew : IntKind.i64.wrap ((i : Int) + 1) = (i : Int) + 1 := wi64 (by omega)
        have et : ((i : Int) + 1).toNat = i + 1 := by omega
        rw [shapeSt]
        simp only [Int.toNat_natCast, bif_dec, tkN_id, tkc_id, allR_true, Bool.and_true, cond_true, rs, rr i hi, rl, List.getD_cons_zero, List.getD_cons_succ, ew, et]
        rw [if_pos (show (i : Int) < (p.length : Int) by omega), if_pos (show (0 : Int) ≤ (i : Int) ∧ (i : Int) < (p.length : Int) by omega), if_pos (show (0 : Int) ≤ (i : Int) ∧ (i : Int) < (c.1.length : Int) by omega),
          if_pos (show (0 : Int) ≤ (i : Int) + 1 ∧ (i : Int) + 1 < (c.1.length : Int) by omega), shaped_eq _ _ _ _ hw'.1.1 hw'.1.2, shaped_eq _ _ _ _ hw'.2.1 hw'.2.2, hs'.1, hs'.2]
        simp only [Option.bind_some, Bool.not_true, cond_false]
        rw [show ((i + 1 : Nat) : Int) = (i : Int) + 1 by omega])
      (fun R kn ko => by
        show st_915_0 R ((rows, ((((List.length p) : Nat) : Int), ((p.length : Int), ()))), (c, ())) kn ko = _
        rw [shapeSt]
        simp only [bif_dec]
        rw [if_neg (show ¬ (p.length : Int) < (p.length : Int) by omega)])
  rw [key]
  rfl
theorem lowF (c : CfgT) (p : List PaT) (micro : Int) : F_912 c p micro =
    bif (((allR (List.length p) (fun _ => true)) && true) && true) then
      (F_915 (tkc c) (rowsP p)).bind fun r4 =>
      bif (!r4) then some ([], ((21:Int), ()))
      else
        bif (((allR (List.length p) (fun _ => true)) && true) && true) then
          (lim st_912_0 ((micro, ((0:Nat), (rowsP p, ((((List.length p) : Nat) : Int), ((0:Int), ()))))), (tkc c, ([], ())))).bind fun r5 =>
          els (fun l6 =>
            bif ((((allR l6.1.1 (fun _ => true)) && true) && true) && true) then
              some (rowsOf l6.1.1 (fun j => tkN (l6.2.1.getD j dT)), ((0:Int), ()))
            else none) (fun r7 => some ([], r7.1)) r5
        else none
    else none := by kernel_rfl
theorem low_ok (c : CfgT) (p : List PaT) (micro : Int) (hN : p.length + 1 = c.1.length) (hc : c.1.length ≤ 1000) (hw : ∀ i, i < p.length → okP (p.getD i dP)) (hs : ∀ i, i < p.length → shpP c p i = true) (hk : knownS (cFmt c) = true) :
    F_912 c p micro = some (lowL c micro p p.length, 0, ()) := by
  rw [lowF]
  simp only [allR_true, Bool.and_true, cond_true, tkc_id, rowsP_id]
  rw [shape_ok c p hN hc hw hs]
  simp only [Option.bind_some, Bool.not_true, cond_false]
  have hp : ∀ i, i < p.length → okT1 (p.getD i dP).1 := fun i hi => by
    have h1 := hs i hi
    unfold shpP shp1 at h1
    simp only [Bool.and_eq_true] at h1
    exact ⟨h1.1.2.2.2, (hw i hi).1⟩
  rw [low_loop c micro p (by omega) hp hk]
  simp only [Option.bind_some, els, allR_true, Bool.and_true, cond_true, tkN_id]
  have : rowsOf p.length (fun j => (lowL c micro p p.length).getD j dT) = lowL c micro p p.length := by
    have h := rowsOf_id (lowL c micro p p.length) dT
    rw [show (lowL c micro p p.length).length = p.length by simp [lowL]] at h
    exact h
  rw [this]
end Go.Proofs.YtkmkhcmfpbffjaaGreat.VI
