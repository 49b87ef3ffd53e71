import Derived.Test.YtkmkhcmfpbffjaaGreatT2746537b
namespace Go.Proofs.YtkmkhcmfpbffjaaGreat.VI
set_option linter.unusedVariables false
set_option linter.unusedSimpArgs false
set_option maxRecDepth 100000
set_option maxHeartbeats 8000000
theorem inf_bits (f : Int) {a : Int} (ha : w32 a) (h : inff f a = true) : a % (2 * TT f) = sgn f (sg f a) + IN f := by
  have e : a % TT f = IN f := by unfold inff at h; simpa using h
  have s := sg_iff f a ha.1
  have b := mod_bd f a
  have ib := IN_bd f
  unfold sgn
  cases hs : sg f a
  · rw [hs] at s; simp at s ⊢; omega
  · have := s.1 hs; simp; omega
theorem sum_w {N M : Int} {e d : Int} (hN : 0 ≤ N ∧ N < 2 ^ 48) (hM : 0 ≤ M ∧ M < 2 ^ 48) (he : -298 ≤ e ∧ e ≤ 260) (hd : -298 ≤ d ∧ d ≤ 260) : N * 2 ^ (e + 298).toNat + M * 2 ^ (d + 298).toNat < 2 ^ 640 := by
  have h1 : N * 2 ^ (e + 298).toNat < 2 ^ 48 * 2 ^ (e + 298).toNat := Int.mul_lt_mul_of_pos_right hN.2 (p2_pos _)
  have h2 : M * 2 ^ (d + 298).toNat < 2 ^ 48 * 2 ^ (d + 298).toNat := Int.mul_lt_mul_of_pos_right hM.2 (p2_pos _)
  rw [← p2_add] at h1 h2
  have a1 := p2_le (show 48 + (e + 298).toNat ≤ 639 by omega)
  have a2 := p2_le (show 48 + (d + 298).toNat ≤ 639 by omega)
  have a3 := p2_succ 639
  rw [show 639 + 1 = 640 from rfl] at a3
  omega
theorem rsum_eq (f mode : Int) (n m : Bool) {e N d M : Int} (hN : 0 ≤ N ∧ N < 2 ^ 48) (hM : 0 ≤ M ∧ M < 2 ^ 48) (he : -298 ≤ e ∧ e ≤ 260) (hd : -298 ≤ d ∧ d ≤ 260) :
    ∃ L K, F_971 n e N = some (n, L, ()) ∧ F_971 m d M = some (m, K, ()) ∧ L.length = 10 ∧ K.length = 10 ∧
      F_970 f mode (n, L, ()) (m, K, ()) = some (totS f mode (sv n (N * 2 ^ (e + 298).toNat) + sv m (M * 2 ^ (d + 298).toNat))) := by
  have c48 : (2 : Int) ^ 48 = 281474976710656 := rfl
  obtain ⟨L, h1, h2, h3⟩ := spread_eq n he (N := N) ⟨hN.1, by omega⟩
  obtain ⟨K, k1, k2, k3⟩ := spread_eq m hd (N := M) ⟨hM.1, by omega⟩
  refine ⟨L, K, h1, k1, h2.1, k2.1, ?_⟩
  have := total_eq f mode h2 k2 (by rw [h3, k3]; exact sum_w hN hM he hd)
  rw [this, h3, k3]
theorem sum_tot (f mode : Int) (n m : Bool) {e N d M : Int} (hN : 0 ≤ N) (hM : 0 ≤ M) : sumS f mode n e N m d M = if N = 0 ∧ M = 0 ∧ n = m then (sgn f n, EXC0, ()) else totS f mode (sv n (N * 2 ^ (e + 298).toNat) + sv m (M * 2 ^ (d + 298).toNat)) := by
  unfold sumS
  have pe := p2_pos (e + 298).toNat
  have pd := p2_pos (d + 298).toNat
  have a := Int.mul_nonneg hN (show (0 : Int) ≤ 2 ^ (e + 298).toNat by omega)
  have b := Int.mul_nonneg hM (show (0 : Int) ≤ 2 ^ (d + 298).toNat by omega)
  by_cases hnm : n = m
  · have : sv n (N * 2 ^ (e + 298).toNat) + sv m (M * 2 ^ (d + 298).toNat) = 0 ↔ (N = 0 ∧ M = 0) := by
      rw [hnm]
      constructor
      · intro h
        have h1 : N * 2 ^ (e + 298).toNat = 0 := by unfold sv at h; split at h <;> omega
        have h2 : M * 2 ^ (d + 298).toNat = 0 := by unfold sv at h; split at h <;> omega
        refine ⟨?_, ?_⟩
        · rcases Int.mul_eq_zero.1 h1 with q | q <;> omega
        · rcases Int.mul_eq_zero.1 h2 with q | q <;> omega
      · rintro ⟨h1, h2⟩; rw [h1, h2]; unfold sv; simp
    by_cases hz : N = 0 ∧ M = 0
    · rw [if_pos ⟨this.2 hz, hnm⟩, if_pos ⟨hz.1, hz.2, hnm⟩]
    · rw [if_neg (fun h => hz (this.1 h.1)), if_neg (fun h => hz ⟨h.1, h.2.1⟩)]
  · rw [if_neg (fun h => hnm h.2), if_neg (fun h => hnm h.2.2)]
theorem fmar_eq (f mode : Int) {a b c : Int} (ha : w32 a) (hb : w32 b) (hc : w32 c) : F_94a f mode a b c = some (fmaS f mode a b c) := by
  have sm := sig_mul f a b
  have xa := xp_bd f a
  have xb := xp_bd f b
  have xc := xp_bd f c
  obtain ⟨L, K, hL, hK, lL, lK, ht⟩ := rsum_eq f mode (!(sg f a == sg f b)) (sg f c) (N := sig f a * sig f b) (M := sig f c) ⟨sm.1.1, sm.2⟩ (sig_48 f c) (show -298 ≤ xp f a + xp f b ∧ xp f a + xp f b ≤ 260 by omega) (show -298 ≤ xp f c ∧ xp f c ≤ 260 by omega)
  unfold F_94a fmaS
  have w1 : IntKind.i64.wrap (xp f a + xp f b) = xp f a + xp f b := wi64 (by omega)
  have w2 : IntKind.u64.wrap (sig f a * sig f b) = sig f a * sig f b := wu64 (by have := sm.1; omega)
  have hst := sum_tot f mode (!(sg f a == sg f b)) (sg f c) (e := xp f a + xp f b) (d := xp f c) sm.1.1 (sig_48 f c).1
  have hfin : nan f a = false → inff f a = false → nan f b = false → inff f b = false → nan f c = false → inff f c = false →
      sumS f mode (!(sg f a == sg f b)) (xp f a + xp f b) (sig f a * sig f b) (sg f c) (xp f c) (sig f c) = bif (zr f a || zr f b) && (zr f c && ((!(sg f a == sg f b)) == sg f c)) then (sgn f (!(sg f a == sg f b)), EXC0, ()) else totS f mode (sv (!(sg f a == sg f b)) (sig f a * sig f b * 2 ^ (xp f a + xp f b + 298).toNat) + sv (sg f c) (sig f c * 2 ^ (xp f c + 298).toNat)) := by
    intro a1 a4 b1 b4 c1 c4
    rw [hst]
    have ea := sig_zero f a a1 a4
    have eb := sig_zero f b b1 b4
    have ec := sig_zero f c c1 c4
    have hz : sig f a * sig f b = 0 ↔ (zr f a || zr f b) = true := by
      rw [Int.mul_eq_zero, ea, eb, Bool.or_eq_true]
    by_cases h : sig f a * sig f b = 0 ∧ sig f c = 0 ∧ (!(sg f a == sg f b)) = sg f c
    · rw [if_pos h, hz.1 h.1, ec.1 h.2.1, h.2.2]; simp
    · rw [if_neg h]
      have : ((zr f a || zr f b) && (zr f c && ((!(sg f a == sg f b)) == sg f c))) = false := by
        apply Bool.eq_false_iff.2; intro k; apply h
        simp only [Bool.and_eq_true, beq_iff_eq] at k
        exact ⟨hz.2 k.1, ec.2 k.2.1, k.2.2⟩
      rw [this]; rfl
  have ib := inf_bits f hc
  simp only [nans_eq f [a, b, c] (by simp) (by simpa using ⟨ha, hb, hc⟩), zeror_eq f ha, zeror_eq f hb, zeror_eq f hc, infr_c f ha, infr_c f hb, infr_c f hc, negr_eq f ha, negr_eq f hb, negr_eq f hc, nanr_w, infr_eq, maskr_eq, zeror_w, unpackr_eq f ha, unpackr_eq f hb, unpackr_eq f hc, Option.bind_some, List.any_cons, List.any_nil, Bool.or_false, w1, w2, hL, hK, len10 lL, len10 lK, ht, and_TT f hc.1 hc.2]
  generalize totS f mode _ = W at *
  generalize sumS f mode _ _ _ _ _ _ = SW at *
  have hnnn : ∀ p q : Bool, (!(p == q)) = (!(q == p)) := by decide
  rcases cls f a with ⟨a1, a3, a4⟩ | ⟨a1, a2, a3, a4⟩ | ⟨a1, a2, a3, a4⟩ | ⟨a1, a2, a3, a4⟩ <;> rcases cls f b with ⟨b1, b3, b4⟩ | ⟨b1, b2, b3, b4⟩ | ⟨b1, b2, b3, b4⟩ | ⟨b1, b2, b3, b4⟩ <;> rcases cls f c with ⟨c1, c3, c4⟩ | ⟨c1, c2, c3, c4⟩ | ⟨c1, c2, c3, c4⟩ | ⟨c1, c2, c3, c4⟩ <;> simp only [a1, a3, a4, b1, b3, b4, c1, c3, c4, cond_true, cond_false, Bool.or_true, Bool.true_or, Bool.or_false, Bool.false_or, Bool.and_true, Bool.and_false, Bool.true_and, Bool.false_and, if_true, if_false, Bool.false_eq_true] at hfin ⊢
  all_goals first
    | rfl
    | (rw [ib c4])
    | (rw [hfin trivial trivial trivial trivial trivial trivial]; done)
    | (rw [hfin trivial trivial trivial trivial trivial trivial]; cases ((!(sg f a == sg f b)) == sg f c) <;> rfl)
    | (cases decide (kl f a = 5) <;> cases decide (kl f b = 5) <;> cases decide (kl f c = 5) <;> rfl)
    | (unfold loud; cases decide (kl f a = 5) <;> cases decide (kl f b = 5) <;> cases decide (kl f c = 5) <;> rfl)
    | (cases sg f a <;> cases sg f b <;> cases sg f c <;> rfl)
end Go.Proofs.YtkmkhcmfpbffjaaGreat.VI
