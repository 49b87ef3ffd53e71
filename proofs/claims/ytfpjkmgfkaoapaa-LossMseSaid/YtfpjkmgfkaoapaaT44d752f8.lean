import Derived.Test.YtfpjkmgfkaoapaaT8e9f3cd2
import Derived.Test.YtfpjkmgfkaoapaaRows
import Derived.WalkKit
import Derived.ProofKit
namespace Go.Proofs.Ytfpjkmgfkaoapaa.VI
set_option linter.unusedVariables false
set_option linter.unusedSimpArgs false
set_option maxRecDepth 100000
set_option maxHeartbeats 8000000
set_option exponentiation.threshold 2000
theorem turn2 {x : Int} (h : w32 x) : turnS 2 x = if 2147483648 ≤ x then x - 2147483648 else x + 2147483648 := by
  have h1 := h.1
  have h2 := h.2
  unfold turnS
  have e : sg 2 x = decide (2147483648 ≤ x) := by
    rw [Bool.eq_iff_iff, decide_eq_true_iff]; unfold sg; rw [decide_eq_true_iff, show TT 2 = 2147483648 from rfl]; omega
  rw [e]
  show (if decide (2147483648 ≤ x) = true then x % 4294967296 - 2147483648 else x % 4294967296 + 2147483648) = _
  rw [Int.emod_eq_of_lt h1 h2]
  by_cases k : 2147483648 ≤ x
  · rw [if_pos (decide_eq_true k), if_pos k]
  · rw [if_neg (by simp [k]), if_neg k]
theorem cs2 : BB 2 = 8388608 ∧ MM 2 = 23 ∧ RR 2 = 256 ∧ TT 2 = 2147483648 ∧ IN 2 = 2139095040 ∧ le 2 = -126 := by decide
def mv (m : Int) : Int := sig 2 m * 2 ^ (xp 2 m + 149).toNat
def vz (s : Int) : Int := sv (sg 2 s) (mv s)
theorem fin2_min (neg : Bool) (u q : Int) (h r s : Bool) (hu : -149 ≤ u) (hq : 0 ≤ q ∧ q ≤ 16777216) (hn : 8388608 ≤ q ∨ u = -149) :
    (fin2 2 0 neg u q h r s).1 = sgn 2 neg + min ((u + 149) * 8388608 + q) 2139095040 := by
  obtain ⟨c1, c2, c3, c4, c5, c6⟩ := cs2
  unfold fin2 overS
  rw [c1, c2, c3, c5, c6]
  have o : (if (0 : Int) = 1 ∨ ((0 : Int) = 2 ∧ neg = true) ∨ ((0 : Int) = 3 ∧ neg = false) then (2139095040 : Int) - 1 else 2139095040) = 2139095040 := by simp
  rw [o]
  by_cases t : q = 16777216
  · subst t
    simp only [show (16777216 : Int) / (2 * 8388608) = 1 by decide, show (16777216 : Int) / 2 / 8388608 = 1 by decide, show (16777216 : Int) / 2 % 8388608 = 0 by decide]
    simp
    by_cases k : u + 1 + 23 + 126 + 1 ≥ 255
    · rw [if_pos (by omega)]; show sgn 2 neg + 2139095040 = _; omega
    · rw [if_neg (by omega)]; show sgn 2 neg + _ = _; omega
  · have e1 : q / (2 * 8388608) = 0 := by omega
    rw [e1]
    simp only [if_true]
    rcases hn with hn | hn
    · have e2 : q / 8388608 = 1 := by omega
      rw [e2]
      simp
      by_cases k : u + 23 + 126 + 1 ≥ 255
      · rw [if_pos (by omega)]; show sgn 2 neg + 2139095040 = _; omega
      · rw [if_neg (by omega)]; show sgn 2 neg + _ + _ = _; omega
    · subst hn
      by_cases k : q / 8388608 = 0
      · rw [k]; simp; omega
      · have e2 : q / 8388608 = 1 := by omega
        rw [e2]; simp; omega
theorem pk_near (neg : Bool) {e N : Int} (hN : 0 < N) (he : -298 ≤ e) :
    ∃ u q : Int, -149 ≤ u ∧ 0 ≤ q ∧ q ≤ 16777216 ∧ (8388608 ≤ q ∨ u = -149) ∧ (pk 2 0 neg e N false).1 = sgn 2 neg + min ((u + 149) * 8388608 + q) 2139095040
      ∧ (∀ S X : Int, -149 ≤ X → X ≤ u → 0 ≤ S → N * 2 ^ (e + 298).toNat ≤ S * 2 ^ (X + 298).toNat → (X = u → q ≤ S) ∧ (X < u → 8388608 * 2 ^ (u - X).toNat ≤ S))
      ∧ (∀ S : Int, S * 2 ^ (u + 298).toNat ≤ N * 2 ^ (e + 298).toNat → S ≤ q)
      ∧ N * 2 ^ (e + 298).toNat < 16777216 * 2 ^ (u + 298).toNat := by
  obtain ⟨c1, c2, c3, c4, c5, c6⟩ := cs2
  have hqb := q_bd 2 e N (by omega)
  rw [c1] at hqb
  have hu : unitS 2 e N = max (-126) (e + ln N - 1) - 23 := by unfold unitS; rw [if_neg (by omega), c2, c6]
  have hnorm : 8388608 ≤ qS N (unitS 2 e N - e) ∨ unitS 2 e N = -149 := by
    by_cases k : unitS 2 e N = -149
    · exact Or.inr k
    left
    have hl := lg_le hN
    have hb : unitS 2 e N - e = lg N - 23 := by rw [hu, ln_pos hN] at k ⊢; omega
    unfold qS
    rw [hb]
    have c : (2 : Int) ^ 23 = 8388608 := rfl
    split
    · have := Int.mul_le_mul_of_nonneg_right hl (show (0 : Int) ≤ 2 ^ (-((lg N : Int) - 23)).toNat by have := p2_pos (-((lg N : Int) - 23)).toNat; omega)
      rw [← p2_add, show lg N + (-((lg N : Int) - 23)).toNat = 23 by omega] at this; omega
    · have p := p2_pos ((lg N : Int) - 23).toNat
      rw [Int.le_ediv_iff_mul_le p, ← c, ← p2_add, show 23 + ((lg N : Int) - 23).toNat = lg N by omega]; exact hl
  have hu0 : -149 ≤ unitS 2 e N := by rw [hu]; omega
  have hW : qS N (unitS 2 e N - e) * 2 ^ (unitS 2 e N + 298).toNat ≤ N * 2 ^ (e + 298).toNat ∧ N * 2 ^ (e + 298).toNat < (qS N (unitS 2 e N - e) + 1) * 2 ^ (unitS 2 e N + 298).toNat
      ∧ (halfS N (unitS 2 e N - e) = true → qS N (unitS 2 e N - e) * 2 ^ (unitS 2 e N + 298).toNat < N * 2 ^ (e + 298).toNat) := by
    unfold qS halfS
    have pe := p2_pos (e + 298).toNat
    have pu := p2_pos (unitS 2 e N + 298).toNat
    generalize unitS 2 e N = u at *
    by_cases k : u - e ≤ 0
    · rw [if_pos k, if_pos k]
      have : N * 2 ^ (-(u - e)).toNat * 2 ^ (u + 298).toNat = N * 2 ^ (e + 298).toNat := by
        rw [Int.mul_assoc, ← p2_add]; congr 2; omega
      refine ⟨by omega, ?_, fun h => by cases h⟩
      rw [Int.add_mul, this]; omega
    · rw [if_neg k, if_neg k]
      have e1 : (2 : Int) ^ (u + 298).toNat = 2 ^ (u - e).toNat * 2 ^ (e + 298).toNat := by rw [← p2_add]; congr 1; omega
      have p := p2_pos (u - e).toNat
      have d := Int.mul_ediv_add_emod N (2 ^ (u - e).toNat)
      have m0 := Int.emod_nonneg N (show (2 : Int) ^ (u - e).toNat ≠ 0 by omega)
      have m1 := Int.emod_lt_of_pos N p
      rw [e1, ← Int.mul_assoc, ← Int.mul_assoc]
      have t1 : N / 2 ^ (u - e).toNat * 2 ^ (u - e).toNat ≤ N := by rw [Int.mul_comm]; omega
      have t2 : N < (N / 2 ^ (u - e).toNat + 1) * 2 ^ (u - e).toNat := by rw [Int.add_mul, Int.mul_comm]; omega
      refine ⟨Int.mul_le_mul_of_nonneg_right t1 (by omega), Int.mul_lt_mul_of_pos_right t2 pe, fun h => ?_⟩
      apply Int.mul_lt_mul_of_pos_right _ pe
      have e2 : (2 : Int) ^ (u - e).toNat = 2 ^ (u - e - 1).toNat * 2 ^ 1 := by rw [← p2_add]; congr 1; omega
      have mm := mod_p2 N (u - e - 1).toNat 1
      rw [show (u - e - 1).toNat + 1 = (u - e).toNat by omega] at mm
      have h1 : N / 2 ^ (u - e - 1).toNat % 2 ^ 1 = 1 := of_decide_eq_true h
      rw [h1] at mm
      have p1 := p2_pos (u - e - 1).toNat
      have m2 := Int.emod_nonneg N (show (2 : Int) ^ (u - e - 1).toNat ≠ 0 by omega)
      rw [Int.mul_comm]; omega
  obtain ⟨w1, w2, w3⟩ := hW
  have pku : (pk 2 0 neg e N false).1 = (fin2 2 0 neg (unitS 2 e N) (fin1 0 neg (qS N (unitS 2 e N - e)) (halfS N (unitS 2 e N - e)) (restS N (unitS 2 e N - e) false)) (halfS N (unitS 2 e N - e)) (restS N (unitS 2 e N - e) false) (smallS 2 e N)).1 := by
    unfold pk; rw [if_neg (by omega)]
  have hf : fin1 0 neg (qS N (unitS 2 e N - e)) (halfS N (unitS 2 e N - e)) (restS N (unitS 2 e N - e) false) = qS N (unitS 2 e N - e) ∨ (fin1 0 neg (qS N (unitS 2 e N - e)) (halfS N (unitS 2 e N - e)) (restS N (unitS 2 e N - e) false) = qS N (unitS 2 e N - e) + 1 ∧ halfS N (unitS 2 e N - e) = true) := by
    unfold fin1 upS
    cases halfS N (unitS 2 e N - e)
    · left; simp
    · by_cases k : (restS N (unitS 2 e N - e) false || decide (qS N (unitS 2 e N - e) % 2 = 1)) = true
      · right; refine ⟨?_, rfl⟩; simp only [Bool.true_and]; rw [k]; simp
      · left; simp only [Bool.true_and]; rw [Bool.not_eq_true] at k; rw [k]; simp
  rw [pku]
  generalize fin1 0 neg (qS N (unitS 2 e N - e)) (halfS N (unitS 2 e N - e)) (restS N (unitS 2 e N - e) false) = q1 at *
  generalize halfS N (unitS 2 e N - e) = hh at *
  generalize restS N (unitS 2 e N - e) false = rr at *
  generalize smallS 2 e N = ss at *
  generalize qS N (unitS 2 e N - e) = q at *
  generalize unitS 2 e N = u at *
  have pu := p2_pos (u + 298).toNat
  refine ⟨u, q1, hu0, by omega, by omega, by omega, fin2_min neg u q1 hh rr ss hu0 (by omega) (by omega), ?_, ?_, ?_⟩
  · intro S X x1 x2 s0 hS
    refine ⟨fun k => ?_, fun k => ?_⟩
    · subst k
      rcases hf with hf | ⟨hf, hh1⟩
      · rw [hf]
        have := Int.le_trans w1 hS
        exact Int.le_of_mul_le_mul_right this pu
      · have := Int.lt_of_lt_of_le (w3 hh1) hS
        have := Int.lt_of_mul_lt_mul_right this (by omega)
        omega
    · have e1 : (2 : Int) ^ (u + 298).toNat = 2 ^ (u - X).toNat * 2 ^ (X + 298).toNat := by rw [← p2_add]; congr 1; omega
      have px := p2_pos (X + 298).toNat
      have hq : 8388608 ≤ q := by omega
      have t1 : 8388608 * 2 ^ (u + 298).toNat ≤ q * 2 ^ (u + 298).toNat := Int.mul_le_mul_of_nonneg_right hq (by omega)
      rw [e1, ← Int.mul_assoc] at t1
      rw [e1] at w1
      exact Int.le_of_mul_le_mul_right (Int.le_trans t1 (Int.le_trans w1 hS)) px
  · intro S hS
    have := Int.lt_of_le_of_lt hS w2
    have := Int.lt_of_mul_lt_mul_right this (by omega)
    omega
  · have : (q + 1) * 2 ^ (u + 298).toNat ≤ 16777216 * 2 ^ (u + 298).toNat := Int.mul_le_mul_of_nonneg_right (by omega) (by omega)
    omega
end Go.Proofs.Ytfpjkmgfkaoapaa.VI

namespace Go.Proofs.Ytfpjkmgfkaoapaa.VI
set_option linter.unusedVariables false
set_option linter.unusedSimpArgs false
set_option maxRecDepth 100000
set_option maxHeartbeats 8000000
set_option exponentiation.threshold 2000
theorem code_parts {c : Int} (h0 : 0 ≤ c) (h1 : c < 2139095040) : -149 ≤ xp 2 c ∧ xp 2 c ≤ 127 ∧ c = (xp 2 c + 149) * 8388608 + sig 2 c ∧ 0 ≤ sig 2 c ∧ sig 2 c < 16777216 ∧ (8388608 ≤ sig 2 c ∨ xp 2 c = -149) := by
  obtain ⟨c1, c2, c3, c4, c5, c6⟩ := cs2
  unfold xp sig ex ff
  rw [c1, c2, c3, c6]
  have e1 : c / 8388608 % 256 = c / 8388608 := by omega
  rw [e1]
  by_cases k : c / 8388608 = 0
  · rw [if_pos k, if_pos k]; omega
  · rw [if_neg k, if_neg k, if_neg (by omega), if_neg (by omega)]; omega
theorem mv_nn (c : Int) : 0 ≤ mv c := Int.mul_nonneg (sig_bd 2 c).1 (by have := p2_pos (xp 2 c + 149).toNat; omega)
theorem mv_up (c : Int) : mv c * 2 ^ 149 = sig 2 c * 2 ^ (xp 2 c + 298).toNat := by
  have := xp_bd 2 c
  unfold mv
  rw [Int.mul_assoc, ← p2_add]; congr 2; omega
theorem mv_le {m c : Int} (h0 : 0 ≤ m) (h : m ≤ c) (h1 : c < 2139095040) : mv m ≤ mv c := by
  obtain ⟨a1, a2, a3, a4, a5, a6⟩ := code_parts h0 (by omega : m < 2139095040)
  obtain ⟨b1, b2, b3, b4, b5, b6⟩ := code_parts (by omega : 0 ≤ c) h1
  unfold mv
  generalize sig 2 m = S at *
  generalize sig 2 c = R at *
  generalize xp 2 m = X at *
  generalize xp 2 c = Y at *
  have px := p2_pos (X + 149).toNat
  by_cases k : X = Y
  · subst k
    exact Int.mul_le_mul_of_nonneg_right (by omega) (by omega)
  · have hXY : X < Y := by omega
    have e1 : (2 : Int) ^ (Y + 149).toNat = 2 ^ (Y - X - 1).toNat * 2 ^ 1 * 2 ^ (X + 149).toNat := by rw [← p2_add, ← p2_add]; congr 1; omega
    have p1 := p2_pos (Y - X - 1).toNat
    rw [e1, ← Int.mul_assoc]
    apply Int.mul_le_mul_of_nonneg_right _ (by omega)
    have : R * 1 ≤ R * 2 ^ (Y - X - 1).toNat := Int.mul_le_mul_of_nonneg_left (by omega) b4
    rw [← Int.mul_assoc]
    omega
theorem rnd_mag (neg : Bool) {e N : Int} (hN : 0 < N) (he : -298 ≤ e) :
    ∃ M : Int, 0 ≤ M ∧ M ≤ 2139095040 ∧ (pk 2 0 neg e N false).1 = sgn 2 neg + M
      ∧ (∀ c, 0 ≤ c → c < 2139095040 → N * 2 ^ (e + 298).toNat ≤ mv c * 2 ^ 149 → M ≤ c)
      ∧ (∀ c, 0 ≤ c → c < 2139095040 → mv c * 2 ^ 149 ≤ N * 2 ^ (e + 298).toNat → c ≤ M) := by
  obtain ⟨u, q, u0, q0, q1, qn, hp, hu, hl, hw⟩ := pk_near neg hN he
  refine ⟨min ((u + 149) * 8388608 + q) 2139095040, by omega, by omega, hp, ?_, ?_⟩
  · intro c h0 h1 hc
    obtain ⟨b1, b2, b3, b4, b5, b6⟩ := code_parts h0 h1
    rw [mv_up] at hc
    generalize sig 2 c = R at *
    generalize xp 2 c = Y at *
    by_cases k : Y ≤ u
    · obtain ⟨z1, z2⟩ := hu R Y b1 k b4 hc
      by_cases k2 : Y = u
      · have := z1 k2; omega
      · have := z2 (by omega)
        have e1 : (2 : Int) ^ (u - Y).toNat = 2 * 2 ^ (u - Y - 1).toNat := by rw [← p2_succ]; congr 1; omega
        have p1 := p2_pos (u - Y - 1).toNat
        omega
    · omega
  · intro c h0 h1 hc
    obtain ⟨b1, b2, b3, b4, b5, b6⟩ := code_parts h0 h1
    rw [mv_up] at hc
    generalize sig 2 c = R at *
    generalize xp 2 c = Y at *
    by_cases k : Y = u
    · subst k
      have := hl R hc
      omega
    · by_cases k2 : Y < u
      · omega
      · exfalso
        have h3 := Int.lt_of_le_of_lt hc hw
        have pu := p2_pos (u + 298).toNat
        have e1 : (2 : Int) ^ (Y + 298).toNat = 2 ^ (Y - u - 1).toNat * 2 ^ 1 * 2 ^ (u + 298).toNat := by rw [← p2_add, ← p2_add]; congr 1; omega
        rw [e1, ← Int.mul_assoc] at h3
        have h4 := Int.lt_of_mul_lt_mul_right h3 (by omega)
        have p1 := p2_pos (Y - u - 1).toNat
        have : R * 1 ≤ R * 2 ^ (Y - u - 1).toNat := Int.mul_le_mul_of_nonneg_left (by omega) b4
        rw [← Int.mul_assoc] at h4
        omega
def fnt (s : Int) : Prop := w32 s ∧ s % 2147483648 < 2139095040
theorem fin_nan {s : Int} (h : fnt s) : nan 2 s = false := by
  unfold nan; exact decide_eq_false (by show ¬ (2139095040 < s % 2147483648); have := h.2; omega)
theorem fin_inf {s : Int} (h : fnt s) : inff 2 s = false := by
  unfold inff; exact decide_eq_false (by show ¬ (s % 2147483648 = 2139095040); have := h.2; omega)
theorem mv_mod (s : Int) (h : w32 s) : mv (s % 2147483648) = mv s := by
  obtain ⟨c1, c2, c3, c4, c5, c6⟩ := cs2
  have h1 := h.1
  have h2 := h.2
  have e1 : s % 2147483648 / 8388608 % 256 = s / 8388608 % 256 := by omega
  have e2 : s % 2147483648 % 8388608 = s % 8388608 := by omega
  unfold mv xp sig ex ff
  rw [c1, c2, c3, c6, e1, e2]
theorem sgd {s : Int} (h : w32 s) : sg 2 s = decide (2147483648 ≤ s) := by
  have h1 := h.1
  have h2 := h.2
  unfold sg
  rw [show TT 2 = 2147483648 from rfl, Bool.eq_iff_iff, decide_eq_true_iff, decide_eq_true_iff]; omega
theorem vz_pos {s : Int} (h : w32 s) (k : s < 2147483648) : vz s = mv s := by
  unfold vz; rw [sgd h, decide_eq_false (by omega)]; rfl
theorem vz_neg {s : Int} (h : w32 s) (k : 2147483648 ≤ s) : vz s = -mv (s - 2147483648) := by
  have h1 := h.1
  have h2 := h.2
  unfold vz; rw [sgd h, decide_eq_true k, ← mv_mod s h, show s % 2147483648 = s - 2147483648 by omega]; rfl
theorem pk_in (neg : Bool) {e N lo hi : Int} (hN : 0 ≤ N) (he : -298 ≤ e) (fl : fnt lo) (fh : fnt hi)
    (h1 : vz lo * 2 ^ 149 ≤ sv neg (N * 2 ^ (e + 298).toNat)) (h2 : sv neg (N * 2 ^ (e + 298).toNat) ≤ vz hi * 2 ^ 149) :
    fnt (pk 2 0 neg e N false).1 ∧ vz lo ≤ vz (pk 2 0 neg e N false).1 ∧ vz (pk 2 0 neg e N false).1 ≤ vz hi := by
  have P : (0 : Int) < 2 ^ 149 := p2_pos 149
  have c4 : sgn 2 true = 2147483648 := rfl
  have c5 : sgn 2 false = 0 := rfl
  by_cases h0 : N = 0
  · subst h0
    have hz : (pk 2 0 neg e 0 false).1 = sgn 2 neg := by unfold pk; rw [if_pos ⟨rfl, rfl⟩]
    have hs : sv neg (0 * 2 ^ (e + 298).toNat) = 0 := by unfold sv; cases neg <;> simp
    rw [hs] at h1 h2
    have v0 : vz (sgn 2 neg) = 0 := by cases neg <;> decide
    rw [hz, v0]
    refine ⟨⟨by cases neg <;> exact ⟨by decide, by decide⟩, by cases neg <;> decide⟩, ?_, ?_⟩
    · exact Int.le_of_mul_le_mul_right (by rw [Int.zero_mul]; exact h1) P
    · exact Int.le_of_mul_le_mul_right (by rw [Int.zero_mul]; exact h2) P
  have hp : 0 < N := by omega
  have hW : 0 < N * 2 ^ (e + 298).toNat := Int.mul_pos hp (p2_pos _)
  obtain ⟨M, m0, m1, hM, hu, hl⟩ := rnd_mag neg hp he
  generalize N * 2 ^ (e + 298).toNat = W at *
  rw [hM]
  have wl := fl.1
  have wh := fh.1
  have l1 := wl.1
  have l2 := wl.2
  have g1 := wh.1
  have g2 := wh.2
  have fl2 := fl.2
  have fh2 := fh.2
  cases neg
  · -- above nought
    rw [c5, Int.zero_add]
    have hsv : sv false W = W := rfl
    rw [hsv] at h1 h2
    have hpos : 0 < vz hi := by
      have : 0 < vz hi * 2 ^ 149 := by omega
      exact Int.pos_of_mul_pos_left this P
    have hhi : hi < 2147483648 := by
      apply Int.lt_of_not_ge; intro k
      rw [vz_neg wh k] at hpos
      have := mv_nn (hi - 2147483648); omega
    have hv := vz_pos wh hhi
    have hMc : M ≤ hi := hu hi g1 (by omega) (by rw [← hv]; exact h2)
    have wM : w32 M := ⟨by omega, by omega⟩
    have vM := vz_pos wM (by omega)
    refine ⟨⟨wM, by omega⟩, ?_, ?_⟩
    · by_cases k : lo < 2147483648
      · have hvl := vz_pos wl k
        rw [hvl] at h1 ⊢
        rw [vM]
        exact mv_le l1 (hl lo l1 (by omega) h1) (by omega)
      · rw [vz_neg wl (by omega), vM]
        have := mv_nn (lo - 2147483648)
        have := mv_nn M
        omega
    · rw [vM, hv]; exact mv_le m0 hMc (by omega)
  · -- below nought
    rw [c4]
    have hsv : sv true W = -W := rfl
    rw [hsv] at h1 h2
    have hneg : vz lo < 0 := by
      have h3 : vz lo * 2 ^ 149 < 0 := by omega
      apply Int.lt_of_not_ge; intro k
      have := Int.mul_nonneg k (Int.le_of_lt P)
      omega
    have hlo : 2147483648 ≤ lo := by
      apply Int.le_of_not_gt; intro k
      rw [vz_pos wl k] at hneg
      have := mv_nn lo; omega
    have hv := vz_neg wl hlo
    have hMc : M ≤ lo - 2147483648 := hu (lo - 2147483648) (by omega) (by omega) (by rw [hv, Int.neg_mul] at h1; omega)
    have wM : w32 (2147483648 + M) := ⟨by omega, by omega⟩
    have vM := vz_neg wM (by omega)
    rw [show 2147483648 + M - 2147483648 = M by omega] at vM
    refine ⟨⟨wM, by omega⟩, ?_, ?_⟩
    · rw [vM, hv]
      have := mv_le m0 hMc (by omega)
      omega
    · by_cases k : hi < 2147483648
      · rw [vz_pos wh k, vM]
        have := mv_nn hi
        have := mv_nn M
        omega
      · have hvh := vz_neg wh (by omega)
        rw [hvh, Int.neg_mul] at h2
        have := mv_le (by omega) (hl (hi - 2147483648) (by omega) (by omega) (by omega)) (show M < 2139095040 by omega)
        rw [hvh, vM]; omega
theorem svl (x : Int) : sv (sg 2 x) (sig 2 x * 2 ^ (xp 2 x + 149).toNat) = vz x := rfl
theorem svl_up (x : Int) : sv (sg 2 x) (sig 2 x * 2 ^ (xp 2 x + 298).toNat) = vz x * 2 ^ 149 := by
  rw [← mv_up, sv_mul]; rfl
theorem sv_mul2 (m n : Bool) (A B : Int) : sv (!(m == n)) (A * B) = sv m A * sv n B := by
  unfold sv; cases m <;> cases n <;> simp [Int.neg_mul, Int.mul_neg]
theorem svl_mul (a b : Int) : sv (!(sg 2 a == sg 2 b)) (sig 2 a * sig 2 b * 2 ^ (xp 2 a + xp 2 b + 298).toNat) = vz a * vz b := by
  have xa := xp_bd 2 a
  have xb := xp_bd 2 b
  rw [← svl a, ← svl b, ← sv_mul2]
  congr 1
  rw [show (xp 2 a + xp 2 b + 298).toNat = (xp 2 a + 149).toNat + (xp 2 b + 149).toNat by omega, p2_add]
  rw [Int.mul_assoc, Int.mul_assoc, Int.mul_left_comm (sig 2 b)]
theorem tot_in {T lo hi : Int} (fl : fnt lo) (fh : fnt hi) (h1 : vz lo * 2 ^ 149 ≤ T) (h2 : T ≤ vz hi * 2 ^ 149) :
    fnt (totS 2 0 T).1 ∧ vz lo ≤ vz (totS 2 0 T).1 ∧ vz (totS 2 0 T).1 ≤ vz hi := by
  have P : (0 : Int) < 2 ^ 149 := p2_pos 149
  unfold totS
  by_cases h0 : T = 0
  · rw [if_pos h0]
    subst h0
    have v0 : vz (sgn 2 (decide ((0 : Int) = 3))) = 0 := by decide
    show fnt (sgn 2 (decide ((0 : Int) = 3))) ∧ vz lo ≤ vz (sgn 2 (decide ((0 : Int) = 3))) ∧ vz (sgn 2 (decide ((0 : Int) = 3))) ≤ vz hi
    rw [v0]
    refine ⟨⟨⟨by decide, by decide⟩, by decide⟩, ?_, ?_⟩
    · exact Int.le_of_mul_le_mul_right (by rw [Int.zero_mul]; exact h1) P
    · exact Int.le_of_mul_le_mul_right (by rw [Int.zero_mul]; exact h2) P
  · rw [if_neg h0]
    have e : sv (decide (T < 0)) ((if T < 0 then -T else T) * 2 ^ ((-298 : Int) + 298).toNat) = T := by
      unfold sv
      by_cases k : T < 0
      · rw [if_pos (decide_eq_true k), if_pos k]; simp
      · rw [if_neg (by simp [k]), if_neg k]; simp
    exact pk_in _ (by split <;> omega) (by decide) fl fh (by rw [e]; exact h1) (by rw [e]; exact h2)
theorem sum_in {n m : Bool} {e N d M lo hi : Int} (fl : fnt lo) (fh : fnt hi)
    (h1 : vz lo * 2 ^ 149 ≤ sv n (N * 2 ^ (e + 298).toNat) + sv m (M * 2 ^ (d + 298).toNat)) (h2 : sv n (N * 2 ^ (e + 298).toNat) + sv m (M * 2 ^ (d + 298).toNat) ≤ vz hi * 2 ^ 149) :
    fnt (sumS 2 0 n e N m d M).1 ∧ vz lo ≤ vz (sumS 2 0 n e N m d M).1 ∧ vz (sumS 2 0 n e N m d M).1 ≤ vz hi := by
  have P : (0 : Int) < 2 ^ 149 := p2_pos 149
  unfold sumS
  generalize sv n (N * 2 ^ (e + 298).toNat) + sv m (M * 2 ^ (d + 298).toNat) = T at *
  by_cases h0 : T = 0 ∧ n = m
  · rw [if_pos h0]
    rw [h0.1] at h1 h2
    have v0 : vz (sgn 2 n) = 0 := by cases n <;> decide
    show fnt (sgn 2 n) ∧ vz lo ≤ vz (sgn 2 n) ∧ vz (sgn 2 n) ≤ vz hi
    rw [v0]
    refine ⟨⟨by cases n <;> exact ⟨by decide, by decide⟩, by cases n <;> decide⟩, ?_, ?_⟩
    · exact Int.le_of_mul_le_mul_right (by rw [Int.zero_mul]; exact h1) P
    · exact Int.le_of_mul_le_mul_right (by rw [Int.zero_mul]; exact h2) P
  · rw [if_neg h0]; exact tot_in fl fh h1 h2
theorem fma_in {a b c lo hi : Int} (fa : fnt a) (fb : fnt b) (fc : fnt c) (fl : fnt lo) (fh : fnt hi) (h1 : vz lo * 2 ^ 149 ≤ vz a * vz b + vz c * 2 ^ 149) (h2 : vz a * vz b + vz c * 2 ^ 149 ≤ vz hi * 2 ^ 149) :
    fnt (fma a b c) ∧ vz lo ≤ vz (fma a b c) ∧ vz (fma a b c) ≤ vz hi := by
  unfold fma fmaS
  rw [fin_nan fa, fin_nan fb, fin_nan fc, fin_inf fa, fin_inf fb, fin_inf fc]
  simp only [Bool.or_false, Bool.and_false, Bool.false_and, Bool.false_eq_true, if_false]
  exact sum_in fl fh (by rw [svl_mul, svl_up]; exact h1) (by rw [svl_mul, svl_up]; exact h2)
theorem addf_in {a b lo hi : Int} (fa : fnt a) (fb : fnt b) (fl : fnt lo) (fh : fnt hi) (h1 : vz lo ≤ vz a + vz b) (h2 : vz a + vz b ≤ vz hi) :
    fnt (addf a b) ∧ vz lo ≤ vz (addf a b) ∧ vz (addf a b) ≤ vz hi := by
  have P : (0 : Int) ≤ 2 ^ 149 := by have := p2_pos 149; omega
  unfold addf addS
  rw [fin_nan fa, fin_nan fb, fin_inf fa, fin_inf fb]
  simp only [Bool.or_false, Bool.and_false, Bool.false_and, Bool.false_eq_true, if_false]
  exact sum_in fl fh (by rw [svl_up, svl_up, ← Int.add_mul]; exact Int.mul_le_mul_of_nonneg_right h1 P) (by rw [svl_up, svl_up, ← Int.add_mul]; exact Int.mul_le_mul_of_nonneg_right h2 P)
theorem turn_fin {b : Int} (fb : fnt b) : fnt (turnS 2 b) ∧ vz (turnS 2 b) = -vz b := by
  have w := fb.1
  have h1 := w.1
  have h2 := w.2
  have h3 := fb.2
  have e := turn2 w
  by_cases k : 2147483648 ≤ b
  · rw [if_pos k] at e
    rw [e]
    have w' : w32 (b - 2147483648) := ⟨by omega, by omega⟩
    refine ⟨⟨w', by omega⟩, ?_⟩
    rw [vz_neg w k, vz_pos w' (by omega)]; omega
  · rw [if_neg k] at e
    rw [e]
    have w' : w32 (b + 2147483648) := ⟨by omega, by omega⟩
    refine ⟨⟨w', by omega⟩, ?_⟩
    rw [vz_neg w' (by omega), vz_pos w (by omega), show b + 2147483648 - 2147483648 = b by omega]
theorem subf_in {a b lo hi : Int} (fa : fnt a) (fb : fnt b) (fl : fnt lo) (fh : fnt hi) (h1 : vz lo ≤ vz a - vz b) (h2 : vz a - vz b ≤ vz hi) :
    fnt (subf a b) ∧ vz lo ≤ vz (subf a b) ∧ vz (subf a b) ≤ vz hi := by
  have ⟨ft, vt⟩ := turn_fin fb
  have e : subf a b = addf a (turnS 2 b) := by
    unfold subf subS addf
    rw [fin_nan fa, fin_nan fb]; rfl
  rw [e]
  exact addf_in fa ft fl fh (by rw [vt]; omega) (by rw [vt]; omega)
end Go.Proofs.Ytfpjkmgfkaoapaa.VI

namespace Go.Proofs.Ytfpjkmgfkaoapaa.VI
set_option linter.unusedVariables false
set_option linter.unusedSimpArgs false
set_option maxRecDepth 100000
set_option maxHeartbeats 8000000
set_option exponentiation.threshold 2000
theorem pk_sticky (n : Bool) (e : Int) {X : Int} (hX : 16777216 ≤ X) : pk 2 0 n e X true = pk 2 0 n (e - 1) (2 * X + 1) false := by
  have h := pk_coarse 2 0 n (e - 1) (2 * X + 1) 1 false (by rw [show BB 2 = 8388608 from rfl, show (2 : Int) ^ 1 = 2 from rfl]; omega)
  rw [show (2 : Int) ^ 1 = 2 from rfl, show (2 * X + 1) / 2 = X by omega, show (2 * X + 1) % 2 = 1 by omega, show e - 1 + ((1 : Nat) : Int) = e by omega] at h
  exact h
theorem pk_even (n : Bool) (e : Int) {X : Int} (hX : 16777216 ≤ X) : pk 2 0 n e X false = pk 2 0 n (e - 1) (2 * X) false := by
  have h := pk_coarse 2 0 n (e - 1) (2 * X) 1 false (by rw [show BB 2 = 8388608 from rfl, show (2 : Int) ^ 1 = 2 from rfl]; omega)
  rw [show (2 : Int) ^ 1 = 2 from rfl, show (2 * X) / 2 = X by omega, show (2 * X) % 2 = 0 by omega, show e - 1 + ((1 : Nat) : Int) = e by omega] at h
  exact h
theorem div_mag {a b : Int} (fa : fnt a) (fb : fnt b) (za : zr 2 a = false) (zb : zr 2 b = false) (he : -290 ≤ xp 2 a - (61 - lg (sig 2 a)) - xp 2 b) :
    ∃ M : Int, 0 ≤ M ∧ M ≤ 2139095040 ∧ divf a b = sgn 2 (!(sg 2 a == sg 2 b)) + M
      ∧ (∀ c, 0 ≤ c → c < 2139095040 → mv a * 2 ^ 149 ≤ mv c * mv b → M ≤ c)
      ∧ (∀ c, 0 ≤ c → c < 2139095040 → mv c * mv b ≤ mv a * 2 ^ 149 → c ≤ M) := by
  have na := fin_nan fa
  have nb := fin_nan fb
  have ia := fin_inf fa
  have ib := fin_inf fb
  have sa : 0 < sig 2 a := by
    have := (sig_zero 2 a na ia).1
    have h0 := (sig_bd 2 a).1
    have h1 : sig 2 a ≠ 0 := fun k => by rw [this k] at za; cases za
    omega
  have sb : 0 < sig 2 b := by
    have := (sig_zero 2 b nb ib).1
    have h0 := (sig_bd 2 b).1
    have h1 : sig 2 b ≠ 0 := fun k => by rw [this k] at zb; cases zb
    omega
  have sa2 := (sig_bd 2 a).2
  have sb2 := (sig_bd 2 b).2
  rw [show BB 2 = 8388608 from rfl] at sa2 sb2
  have xa := xp_bd 2 a
  have xb := xp_bd 2 b
  have hd : divf a b = (pk 2 0 (!(sg 2 a == sg 2 b)) (xp 2 a - (61 - lg (sig 2 a)) - xp 2 b) (sig 2 a * 2 ^ (61 - lg (sig 2 a)) / sig 2 b) (decide (sig 2 a * 2 ^ (61 - lg (sig 2 a)) % sig 2 b ≠ 0))).1 := by
    unfold divf divS
    rw [na, nb, ia, ib, za, zb]
    rfl
  have xaL := Int.le_refl (mv a)
  have eA : mv a = sig 2 a * 2 ^ (xp 2 a + 149).toNat := rfl
  have eB : mv b = sig 2 b * 2 ^ (xp 2 b + 149).toNat := rfl
  have hxa : -149 ≤ xp 2 a := by omega
  have hxb : -149 ≤ xp 2 b := by omega
  have hlg : lg (sig 2 a) < 24 := lg_bd sa (by have : (2 : Int) ^ 24 = 16777216 := rfl; omega)
  have hlt := lg_le sa
  rw [hd]
  generalize (!(sg 2 a == sg 2 b)) = n
  generalize sig 2 a = A at *
  generalize sig 2 b = B at *
  generalize xp 2 a = x at *
  generalize xp 2 b = y at *
  obtain ⟨s, hs⟩ : ∃ s : Nat, s = 61 - lg A := ⟨_, rfl⟩
  have hsI : (61 - (lg A : Int)) = (s : Int) := by omega
  rw [hsI] at he ⊢
  rw [← hs]
  have ps := p2_pos s
  have hW : 2 ^ 61 ≤ A * 2 ^ s := by
    have := Int.mul_le_mul_of_nonneg_right hlt (Int.le_of_lt ps)
    rwa [← p2_add, show lg A + s = 61 by omega] at this
  have dm := Int.mul_ediv_add_emod (A * 2 ^ s) B
  have m0 := Int.emod_nonneg (A * 2 ^ s) (show B ≠ 0 by omega)
  have m1 := Int.emod_lt_of_pos (A * 2 ^ s) sb
  have hX : 2 ^ 37 ≤ A * 2 ^ s / B := by
    rw [Int.le_ediv_iff_mul_le sb]
    have c1 : (2 : Int) ^ 37 = 137438953472 := rfl
    have c2 : (2 : Int) ^ 61 = 2305843009213693952 := rfl
    omega
  generalize hq : A * 2 ^ s / B = X at *
  generalize hr : A * 2 ^ s % B = R at *
  have c37 : (2 : Int) ^ 37 = 137438953472 := rfl
  obtain ⟨t, ht0, hp⟩ : ∃ t : Int, (t = (if R = 0 then 0 else 1)) ∧ pk 2 0 n (x - s - y) X (decide (R ≠ 0)) = pk 2 0 n (x - s - y - 1) (2 * X + t) false := by
    by_cases k : R = 0
    · refine ⟨0, by rw [if_pos k], ?_⟩
      rw [show decide (R ≠ 0) = false by simp [k], pk_even n _ (by omega), Int.add_zero]
    · refine ⟨1, by rw [if_neg k], ?_⟩
      rw [show decide (R ≠ 0) = true by simp [k], pk_sticky n _ (by omega)]
  have htb : 0 ≤ t ∧ t ≤ 1 := by rw [ht0]; split <;> omega
  rw [hp]
  obtain ⟨M, M0, M1, hM, up, dn⟩ := rnd_mag n (e := x - s - y - 1) (N := 2 * X + t) (by omega) (by omega)
  refine ⟨M, M0, M1, hM, ?_, ?_⟩
  · intro c h0 h1 hc
    apply up c h0 h1
    obtain ⟨b1, b2, b3, b4, b5, b6⟩ := code_parts h0 h1
    rw [mv_up]
    have eC : mv c = sig 2 c * 2 ^ (xp 2 c + 149).toNat := rfl
    rw [eA, eB, eC] at hc
    generalize sig 2 c = S at *
    generalize xp 2 c = Y at *
    have p1 := p2_pos (x + 149).toNat
    have hc2 : (A * 2 ^ s) * 2 ^ (x - s - y + 298).toNat ≤ S * B * 2 ^ (Y + 298).toNat := by
      have k := Int.mul_le_mul_of_nonneg_right hc (show (0 : Int) ≤ 2 ^ 600 by have := p2_pos 600; omega)
      have e1 : A * 2 ^ (x + 149).toNat * 2 ^ 149 * 2 ^ 600 = (A * 2 ^ s) * 2 ^ (x - s - y + 298).toNat * 2 ^ (y + 600).toNat := by
        simp only [Int.mul_assoc]; congr 1
        rw [← p2_add, ← p2_add, ← p2_add, ← p2_add]; congr 1; omega
      have e2 : S * 2 ^ (Y + 149).toNat * (B * 2 ^ (y + 149).toNat) * 2 ^ 600 = S * B * 2 ^ (Y + 298).toNat * 2 ^ (y + 600).toNat := by
        rw [show S * 2 ^ (Y + 149).toNat * (B * 2 ^ (y + 149).toNat) * 2 ^ 600 = S * B * (2 ^ (Y + 149).toNat * (2 ^ (y + 149).toNat * 2 ^ 600)) by
          simp only [Int.mul_assoc, Int.mul_left_comm, Int.mul_comm]]
        rw [Int.mul_assoc (S * B)]; congr 1
        rw [← p2_add, ← p2_add, ← p2_add]; congr 1; omega
      rw [e1, e2] at k
      exact Int.le_of_mul_le_mul_right k (p2_pos _)
    have hY : x - s - y ≤ Y := by
      apply Int.le_of_not_gt; intro k
      obtain ⟨d, hd⟩ : ∃ d : Nat, (x - s - y + 298).toNat = d + (Y + 298).toNat := ⟨(x - s - y - Y).toNat, by omega⟩
      rw [hd, p2_add, ← Int.mul_assoc] at hc2
      have k1 := Int.le_of_mul_le_mul_right hc2 (p2_pos _)
      have k2 : A * 2 ^ s * 1 ≤ A * 2 ^ s * 2 ^ d := Int.mul_le_mul_of_nonneg_left (by have := p2_pos d; omega) (by have := p2_pos 61; omega)
      have k3 : S * B ≤ 16777216 * B := Int.mul_le_mul_of_nonneg_right (by omega) (by omega)
      have c2 : (2 : Int) ^ 61 = 2305843009213693952 := rfl
      omega
    obtain ⟨d, hd⟩ : ∃ d : Nat, (Y + 298).toNat = d + (x - s - y + 298).toNat := ⟨(Y - (x - s - y)).toNat, by omega⟩
    rw [hd, p2_add, ← Int.mul_assoc] at hc2
    have k1 := Int.le_of_mul_le_mul_right hc2 (p2_pos _)
    rw [show S * B * 2 ^ d = B * (S * 2 ^ d) by simp only [Int.mul_assoc, Int.mul_left_comm, Int.mul_comm], ← dm] at k1
    have k2 : X + t ≤ S * 2 ^ d := by
      apply Int.le_of_not_gt; intro k
      have : S * 2 ^ d + 1 ≤ X + t := k
      by_cases r0 : R = 0
      · rw [if_pos r0] at ht0
        have := Int.mul_le_mul_of_nonneg_left (show S * 2 ^ d + 1 ≤ X by omega) (show 0 ≤ B by omega)
        rw [Int.mul_add, Int.mul_one] at this; omega
      · rw [if_neg r0] at ht0
        have := Int.mul_le_mul_of_nonneg_left (show S * 2 ^ d ≤ X by omega) (show 0 ≤ B by omega)
        omega
    obtain ⟨z, hz⟩ : ∃ z : Nat, (x - s - y - 1 + 298).toNat = z := ⟨_, rfl⟩
    have hz2 : (x - s - y + 298).toNat = z + 1 := by omega
    rw [hd, hz, p2_add, hz2, p2_succ]
    have := Int.mul_le_mul_of_nonneg_right (show 2 * X + t ≤ 2 * (S * 2 ^ d) by omega) (Int.le_of_lt (p2_pos z))
    rw [show S * (2 ^ d * (2 * 2 ^ z)) = 2 * (S * 2 ^ d) * 2 ^ z by simp only [Int.mul_assoc, Int.mul_left_comm, Int.mul_comm]]
    exact this
  · intro c h0 h1 hc
    apply dn c h0 h1
    obtain ⟨b1, b2, b3, b4, b5, b6⟩ := code_parts h0 h1
    rw [mv_up]
    have eC : mv c = sig 2 c * 2 ^ (xp 2 c + 149).toNat := rfl
    rw [eA, eB, eC] at hc
    generalize sig 2 c = S at *
    generalize xp 2 c = Y at *
    have hc2 : S * B * 2 ^ (Y + 298).toNat ≤ (A * 2 ^ s) * 2 ^ (x - s - y + 298).toNat := by
      have k := Int.mul_le_mul_of_nonneg_right hc (show (0 : Int) ≤ 2 ^ 600 by have := p2_pos 600; omega)
      have e1 : A * 2 ^ (x + 149).toNat * 2 ^ 149 * 2 ^ 600 = (A * 2 ^ s) * 2 ^ (x - s - y + 298).toNat * 2 ^ (y + 600).toNat := by
        simp only [Int.mul_assoc]; congr 1
        rw [← p2_add, ← p2_add, ← p2_add, ← p2_add]; congr 1; omega
      have e2 : S * 2 ^ (Y + 149).toNat * (B * 2 ^ (y + 149).toNat) * 2 ^ 600 = S * B * 2 ^ (Y + 298).toNat * 2 ^ (y + 600).toNat := by
        rw [show S * 2 ^ (Y + 149).toNat * (B * 2 ^ (y + 149).toNat) * 2 ^ 600 = S * B * (2 ^ (Y + 149).toNat * (2 ^ (y + 149).toNat * 2 ^ 600)) by
          simp only [Int.mul_assoc, Int.mul_left_comm, Int.mul_comm]]
        rw [Int.mul_assoc (S * B)]; congr 1
        rw [← p2_add, ← p2_add, ← p2_add]; congr 1; omega
      rw [e1, e2] at k
      exact Int.le_of_mul_le_mul_right k (p2_pos _)
    obtain ⟨z, hz⟩ : ∃ z : Nat, (x - s - y - 1 + 298).toNat = z := ⟨_, rfl⟩
    have hz2 : (x - s - y + 298).toNat = z + 1 := by omega
    rw [hz]
    by_cases hY : x - s - y ≤ Y
    · obtain ⟨d, hd⟩ : ∃ d : Nat, (Y + 298).toNat = d + (x - s - y + 298).toNat := ⟨(Y - (x - s - y)).toNat, by omega⟩
      rw [hd, p2_add, ← Int.mul_assoc] at hc2
      have k1 := Int.le_of_mul_le_mul_right hc2 (p2_pos _)
      rw [show S * B * 2 ^ d = B * (S * 2 ^ d) by simp only [Int.mul_assoc, Int.mul_left_comm, Int.mul_comm], ← dm] at k1
      have k2 : S * 2 ^ d ≤ X := by
        apply Int.le_of_not_gt; intro k
        have := Int.mul_le_mul_of_nonneg_left (show X + 1 ≤ S * 2 ^ d by omega) (show 0 ≤ B by omega)
        rw [Int.mul_add, Int.mul_one] at this; omega
      rw [hd, p2_add, hz2, p2_succ]
      rw [show S * (2 ^ d * (2 * 2 ^ z)) = 2 * (S * 2 ^ d) * 2 ^ z by simp only [Int.mul_assoc, Int.mul_left_comm, Int.mul_comm]]
      exact Int.mul_le_mul_of_nonneg_right (by omega) (Int.le_of_lt (p2_pos z))
    · obtain ⟨d, hd⟩ : ∃ d : Nat, z = d + (Y + 298).toNat := ⟨(x - s - y - 1 - Y).toNat, by omega⟩
      rw [hd, p2_add, ← Int.mul_assoc]
      apply Int.mul_le_mul_of_nonneg_right _ (Int.le_of_lt (p2_pos _))
      have : (2 * X + t) * 1 ≤ (2 * X + t) * 2 ^ d := Int.mul_le_mul_of_nonneg_left (by have := p2_pos d; omega) (by omega)
      omega
end Go.Proofs.Ytfpjkmgfkaoapaa.VI

namespace Go.Proofs.Ytfpjkmgfkaoapaa.VI
set_option linter.unusedVariables false
set_option linter.unusedSimpArgs false
set_option maxRecDepth 100000
set_option maxHeartbeats 8000000
set_option exponentiation.threshold 2000
theorem code_of {k : Int} {e : Nat} (h0 : 0 < k) (h1 : k < 16777216) (he : 23 ≤ e ∧ e ≤ 200) : ∃ c, 0 ≤ c ∧ c < 2139095040 ∧ mv c = k * 2 ^ e := by
  obtain ⟨c1, c2, c3, c4, c5, c6⟩ := cs2
  have hl : lg k < 24 := lg_bd h0 (by have : (2 : Int) ^ 24 = 16777216 := rfl; omega)
  have a := lg_le h0
  have b := lg_lt h0
  have p := p2_pos (23 - lg k)
  have l1 := Int.mul_le_mul_of_nonneg_right a (Int.le_of_lt p)
  rw [← p2_add, show lg k + (23 - lg k) = 23 by omega] at l1
  have l2 := Int.mul_lt_mul_of_pos_right b p
  rw [← p2_add, show lg k + 1 + (23 - lg k) = 24 by omega] at l2
  have c23 : (2 : Int) ^ 23 = 8388608 := rfl
  have c24 : (2 : Int) ^ 24 = 16777216 := rfl
  have hm : mv (((e : Int) + lg k - 22) * 8388608 + (k * 2 ^ (23 - lg k) - 8388608)) = k * 2 ^ e := by
    have e0 : (k * 2 ^ e) = k * 2 ^ (23 - lg k) * 2 ^ (e + lg k - 23) := by rw [Int.mul_assoc, ← p2_add]; congr 2; omega
    rw [e0]
    generalize k * 2 ^ (23 - lg k) = S at *
    unfold mv xp sig ex ff
    rw [c1, c2, c3, c6]
    have e1 : (((e : Int) + lg k - 22) * 8388608 + (S - 8388608)) / 8388608 % 256 = (e : Int) + lg k - 22 := by omega
    have e2 : (((e : Int) + lg k - 22) * 8388608 + (S - 8388608)) % 8388608 = S - 8388608 := by omega
    rw [e1, e2, if_neg (by omega), if_neg (by omega)]
    rw [show S - 8388608 + 8388608 = S by omega]
    congr 2; omega
  exact ⟨_, by omega, by omega, hm⟩
theorem code_fnt {c : Int} (h0 : 0 ≤ c) (h1 : c < 2139095040) : fnt c ∧ vz c = mv c := ⟨⟨⟨h0, by omega⟩, by omega⟩, vz_pos ⟨h0, by omega⟩ (by omega)⟩
theorem mv_lt {a b : Int} (h0 : 0 ≤ a) (h : a < b) (h1 : b < 2139095040) : mv a < mv b := by
  obtain ⟨a1, a2, a3, a4, a5, a6⟩ := code_parts h0 (by omega : a < 2139095040)
  obtain ⟨b1, b2, b3, b4, b5, b6⟩ := code_parts (by omega : 0 ≤ b) h1
  unfold mv
  generalize sig 2 a = S at *
  generalize sig 2 b = R at *
  generalize xp 2 a = x at *
  generalize xp 2 b = y at *
  have px := p2_pos (x + 149).toNat
  by_cases k : x = y
  · subst k
    exact Int.mul_lt_mul_of_pos_right (by omega) px
  · obtain ⟨d, hd⟩ : ∃ d : Nat, (y + 149).toNat = (d + 1) + (x + 149).toNat := ⟨(y - x - 1).toNat, by omega⟩
    rw [hd, p2_add, ← Int.mul_assoc]
    apply Int.mul_lt_mul_of_pos_right _ px
    rw [p2_succ]
    have := Int.mul_le_mul_of_nonneg_left (show (1 : Int) ≤ 2 ^ d by have := p2_pos d; omega) (show 0 ≤ 2 * R by omega)
    rw [show R * (2 * 2 ^ d) = 2 * R * 2 ^ d by simp only [Int.mul_assoc, Int.mul_left_comm, Int.mul_comm]]
    omega
theorem mv_code_le {a b : Int} (h0 : 0 ≤ a) (h1 : b < 2139095040) (hb : 0 ≤ b) (h2 : a < 2139095040) (h : mv a ≤ mv b) : a ≤ b := by
  apply Int.le_of_not_gt; intro k
  have := mv_lt hb k h2; omega
theorem int_exact {n : Int} (h : -16777216 < n ∧ n < 16777216) : fnt (intf n) ∧ vz (intf n) = n * 2 ^ 149 := by
  have P : (0 : Int) < 2 ^ 149 := p2_pos 149
  have hx : ∃ c, fnt c ∧ vz c = n * 2 ^ 149 := by
    by_cases h0 : n = 0
    · subst h0; exact ⟨0, (code_fnt (by decide) (by decide)).1, by decide⟩
    by_cases h1 : 0 < n
    · obtain ⟨c, a, b, e⟩ := code_of (k := n) (e := 149) h1 h.2 (by decide)
      exact ⟨c, (code_fnt a b).1, by rw [(code_fnt a b).2, e]⟩
    · obtain ⟨c, a, b, e⟩ := code_of (k := -n) (e := 149) (by omega) (by omega) (by decide)
      have t := turn_fin (code_fnt a b).1
      refine ⟨_, t.1, ?_⟩
      rw [t.2, (code_fnt a b).2, e, Int.neg_mul, Int.neg_neg]
  obtain ⟨c, fc, vc⟩ := hx
  have e : sv (decide (n < 0)) ((if n < 0 then -n else n) * 2 ^ ((0 : Int) + 298).toNat) = n * 2 ^ 298 := by
    unfold sv
    by_cases c : n < 0
    · rw [if_pos (decide_eq_true c), if_pos c, Int.neg_mul, Int.neg_neg]; rfl
    · rw [if_neg (by simp [c]), if_neg c]; rfl
  have e2 : n * 2 ^ 149 * 2 ^ 149 = n * 2 ^ 298 := by rw [Int.mul_assoc, ← p2_add]
  have := pk_in (decide (n < 0)) (N := if n < 0 then -n else n) (e := 0) (by split <;> omega) (by decide) fc fc
    (by rw [e, vc, e2]; exact Int.le_refl _) (by rw [e, vc, e2]; exact Int.le_refl _)
  rw [vc] at this
  exact ⟨this.1, Int.le_antisymm this.2.2 this.2.1⟩
end Go.Proofs.Ytfpjkmgfkaoapaa.VI

namespace Go.Proofs.Ytfpjkmgfkaoapaa.VI
set_option linter.unusedVariables false
set_option linter.unusedSimpArgs false
set_option maxRecDepth 100000
set_option maxHeartbeats 8000000
set_option exponentiation.threshold 2000
theorem fnt_lit {s : Int} (h : (decide (0 ≤ s) && (decide (s < 4294967296) && decide (s % 2147483648 < 2139095040))) = true) : fnt s := by
  simp only [Bool.and_eq_true, decide_eq_true_eq] at h
  exact ⟨⟨h.1, h.2.1⟩, h.2.2⟩
theorem zr2 {x : Int} : zr 2 x = true ↔ x % 2147483648 = 0 := by
  unfold zr; rw [decide_eq_true_iff]; rfl
theorem wide_mild (R C : Nat) (V : List Int) (mV : ∀ v ∈ V, mildP 2 v) (wV : ∀ v ∈ V, wf 2 v) : wideL ((R : Int), (C : Int), 2, V, ()) = V := by
  apply List.ext_getElem
  · rw [wideL_len]
  · intro k h1 h2
    have hm := List.getElem_mem h2
    have e1 : (wideL ((R : Int), (C : Int), 2, V, ()))[k] = gl (wideL ((R : Int), (C : Int), 2, V, ())) k := (gtd h1 0).symm
    rw [e1]
    show gl ((List.range V.length).map fun i => widen 2 (V.getD i 0)) k = _
    rw [gl_mapA h2, gtd h2]
    exact widen_fin (wf_w (wV _ hm)) (mV _ hm).1 (mV _ hm).2.1
theorem cmp_vz {a b : Int} (fa : fnt a) (fb : fnt b) : (cmp 2 a b).1 = if vz a < vz b then -1 else if vz b < vz a then 1 else 0 := by
  have wa := fa.1
  have wb := fb.1
  have a0 := wa.1
  have a1 := wa.2
  have b0 := wb.1
  have b1 := wb.2
  have a2 := fa.2
  have b2 := fb.2
  have c149 : mv 0 = 0 := by decide
  unfold cmp
  rw [fin_nan fa, fin_nan fb]
  simp only [Bool.or_self, Bool.false_eq_true, if_false]
  have ka : ky 2 a = if 2147483648 ≤ a then -1 - (a - 2147483648) else a := by
    unfold ky; rw [sgd wa, show TT 2 = 2147483648 from rfl]
    by_cases h : 2147483648 ≤ a
    · rw [if_pos h, decide_eq_true h]; simp; omega
    · rw [if_neg h, decide_eq_false h]; simp; omega
  have kb : ky 2 b = if 2147483648 ≤ b then -1 - (b - 2147483648) else b := by
    unfold ky; rw [sgd wb, show TT 2 = 2147483648 from rfl]
    by_cases h : 2147483648 ≤ b
    · rw [if_pos h, decide_eq_true h]; simp; omega
    · rw [if_neg h, decide_eq_false h]; simp; omega
  have va : vz a = if 2147483648 ≤ a then -mv (a - 2147483648) else mv a := by
    by_cases h : 2147483648 ≤ a
    · rw [if_pos h, vz_neg wa h]
    · rw [if_neg h, vz_pos wa (by omega)]
  have vb : vz b = if 2147483648 ≤ b then -mv (b - 2147483648) else mv b := by
    by_cases h : 2147483648 ≤ b
    · rw [if_pos h, vz_neg wb h]
    · rw [if_neg h, vz_pos wb (by omega)]
  by_cases hz : (zr 2 a && zr 2 b) = true
  · rw [if_pos hz]
    rw [Bool.and_eq_true, zr2, zr2] at hz
    have ea : vz a = 0 := by
      rw [va]; split
      · rw [show a - 2147483648 = 0 by omega, c149]; rfl
      · rw [show a = 0 by omega, c149]
    have eb : vz b = 0 := by
      rw [vb]; split
      · rw [show b - 2147483648 = 0 by omega, c149]; rfl
      · rw [show b = 0 by omega, c149]
    rw [ea, eb]; rfl
  rw [if_neg hz]
  have hz' : ¬ (a % 2147483648 = 0 ∧ b % 2147483648 = 0) := fun q => hz (by rw [Bool.and_eq_true, zr2, zr2]; exact q)
  have key : ∀ x y : Int, fnt x → fnt y → ¬ (x % 2147483648 = 0 ∧ y % 2147483648 = 0) → (if 2147483648 ≤ x then -1 - (x - 2147483648) else x) < (if 2147483648 ≤ y then -1 - (y - 2147483648) else y) → (if 2147483648 ≤ x then -mv (x - 2147483648) else mv x) < (if 2147483648 ≤ y then -mv (y - 2147483648) else mv y) := by
    intro x y fx fy hne h
    have x0 := fx.1.1
    have x1 := fx.1.2
    have y0 := fy.1.1
    have y1 := fy.1.2
    have x2 := fx.2
    have y2 := fy.2
    by_cases hx : 2147483648 ≤ x
    · rw [if_pos hx] at h ⊢
      by_cases hy : 2147483648 ≤ y
      · rw [if_pos hy] at h ⊢
        have := mv_lt (a := y - 2147483648) (b := x - 2147483648) (by omega) (by omega) (by omega)
        omega
      · rw [if_neg hy] at h ⊢
        have m1 := mv_nn (x - 2147483648)
        have m2 := mv_nn y
        by_cases q : x - 2147483648 = 0
        · have := mv_lt (a := 0) (b := y) (by decide) (by omega) (by omega)
          rw [c149] at this; omega
        · have := mv_lt (a := 0) (b := x - 2147483648) (by decide) (by omega) (by omega)
          rw [c149] at this; omega
    · rw [if_neg hx] at h ⊢
      by_cases hy : 2147483648 ≤ y
      · rw [if_pos hy] at h; omega
      · rw [if_neg hy] at h ⊢
        exact mv_lt x0 h (by omega)
  rw [ka, kb]
  have k1 := key a b fa fb hz'
  have k2 := key b a fb fa (fun q => hz' ⟨q.2, q.1⟩)
  have k3 : (if 2147483648 ≤ a then -1 - (a - 2147483648) else a) = (if 2147483648 ≤ b then -1 - (b - 2147483648) else b) → a = b := by
    intro q; split at q <;> split at q <;> omega
  rw [← va, ← vb] at k1 k2
  by_cases p1 : (if 2147483648 ≤ a then -1 - (a - 2147483648) else a) < (if 2147483648 ≤ b then -1 - (b - 2147483648) else b)
  · rw [if_pos p1, if_pos (k1 p1)]
  · rw [if_neg p1]
    by_cases p2 : (if 2147483648 ≤ b then -1 - (b - 2147483648) else b) < (if 2147483648 ≤ a then -1 - (a - 2147483648) else a)
    · have := k2 p2
      rw [if_pos p2, if_neg (by omega), if_pos this]
    · rw [if_neg p2]
      have := k3 (by omega)
      subst this
      rw [if_neg (by omega), if_neg (by omega)]
def mld (v : Int) : Prop := w32 v ∧ (v = 0 ∨ (1048576000 ≤ v % 2147483648 ∧ v % 2147483648 < 1082130432))
theorem mld_vz {v : Int} (h : mld v) : fnt v ∧ ∃ k : Int, vz v = k * 2 ^ 124 ∧ -134217728 < k ∧ k < 134217728 := by
  obtain ⟨w, hr⟩ := h
  have w0 := w.1
  have w1 := w.2
  refine ⟨⟨w, by omega⟩, ?_⟩
  rcases hr with rfl | ⟨r1, r2⟩
  · exact ⟨0, by decide, by decide, by decide⟩
  have main : ∃ k : Int, mv (v % 2147483648) = k * 2 ^ 124 ∧ 0 ≤ k ∧ k < 134217728 := by
    generalize v % 2147483648 = c at *
    obtain ⟨a1, a2, a3, a4, a5, a6⟩ := code_parts (c := c) (by omega) (by omega)
    have hx : -25 ≤ xp 2 c ∧ xp 2 c ≤ -22 := by omega
    refine ⟨sig 2 c * 2 ^ (xp 2 c + 25).toNat, ?_, Int.mul_nonneg a4 (Int.le_of_lt (p2_pos _)), ?_⟩
    · unfold mv; rw [Int.mul_assoc, ← p2_add]; congr 2; omega
    · have p := p2_le (show (xp 2 c + 25).toNat ≤ 3 by omega)
      have q := Int.mul_le_mul_of_nonneg_left p a4
      rw [show (2 : Int) ^ 3 = 8 from rfl] at q
      omega
  obtain ⟨k, e, k0, k1⟩ := main
  by_cases hs : 2147483648 ≤ v
  · rw [show v % 2147483648 = v - 2147483648 by omega] at e
    exact ⟨-k, by rw [vz_neg w hs, e, Int.neg_mul], by omega, by omega⟩
  · rw [show v % 2147483648 = v by omega] at e
    exact ⟨k, by rw [vz_pos w (by omega), e], by omega, by omega⟩
theorem neg_pos_code {s : Int} (f : fnt s) (h : 0 < vz s) : 0 ≤ s ∧ s < 2139095040 ∧ vz s = mv s := by
  have pos : s < 2147483648 := by
    apply Int.lt_of_not_ge; intro k
    have := vz_neg f.1 k
    have := mv_nn (s - 2147483648); omega
  exact ⟨f.1.1, by have := f.2; have := f.1.1; omega, vz_pos f.1 pos⟩
theorem mld_sub {x z : Int} (hx : mld x) (hz : mld z) : fnt (subf x z) ∧
    ((vz x = vz z ∧ subf x z = 0) ∨ (vz z < vz x ∧ 2 ^ 124 ≤ vz (subf x z) ∧ vz (subf x z) ≤ 2 ^ 152) ∨ (vz x < vz z ∧ -(2 ^ 152) ≤ vz (subf x z) ∧ vz (subf x z) ≤ -(2 ^ 124))) := by
  obtain ⟨fx, k, ek, k1, k2⟩ := mld_vz hx
  obtain ⟨fz, m, em, m1, m2⟩ := mld_vz hz
  have P : (0 : Int) < 2 ^ 124 := p2_pos 124
  have c152 : (2 : Int) ^ 152 = 268435456 * 2 ^ 124 := by decide +kernel
  have v1 : vz 855638016 = 2 ^ 124 := by decide +kernel
  have v2 : vz 1090519040 = 2 ^ 152 := by decide +kernel
  have f1 : fnt 855638016 := fnt_lit (by decide)
  have f2 : fnt 1090519040 := fnt_lit (by decide)
  have g1 := turn_fin f1
  have g2 := turn_fin f2
  by_cases h0 : k = m
  · subst h0
    have exz : vz x = vz z := by rw [ek, em]
    have e : subf x z = 0 := by
      have ft := turn_fin fz
      have e1 : subf x z = addf x (turnS 2 z) := by
        unfold subf subS addf
        rw [fin_nan fx, fin_nan fz]; rfl
      have ea := svl_up x
      have eb := svl_up (turnS 2 z)
      rw [e1]
      unfold addf addS
      rw [fin_nan fx, fin_nan ft.1, fin_inf fx, fin_inf ft.1]
      simp only [Bool.or_false, Bool.and_false, Bool.false_and, Bool.false_eq_true, if_false]
      unfold sumS
      rw [ea, eb, ft.2, exz, ← Int.add_mul, show vz z + -vz z = 0 by omega, Int.zero_mul]
      by_cases hs : sg 2 x = sg 2 (turnS 2 z)
      · -- of one sign: both nought; then the sign is that of nought
        have hz0 : vz z = 0 := by
          have h2 : turnS 2 z = if 2147483648 ≤ z then z - 2147483648 else z + 2147483648 := turn2 fz.1
          have wz0 := fz.1.1
          have wz1 := fz.1.2
          have st : sg 2 (turnS 2 z) = decide (z < 2147483648) := by
            rw [sgd ft.1.1, h2]; split
            · rw [decide_eq_false (by omega), decide_eq_false (by omega)]
            · rw [decide_eq_true (by omega), decide_eq_true (by omega)]
          rw [st, sgd fx.1] at hs
          by_cases q : z < 2147483648
          · rw [decide_eq_true q] at hs
            have hx2 : 2147483648 ≤ x := of_decide_eq_true hs
            have a := vz_neg fx.1 hx2
            have b := vz_pos fz.1 q
            have := mv_nn (x - 2147483648)
            have := mv_nn z
            omega
          · rw [decide_eq_false q] at hs
            have hx2 : ¬ 2147483648 ≤ x := of_decide_eq_false hs
            have a := vz_pos fx.1 (by omega)
            have b := vz_neg fz.1 (by omega)
            have := mv_nn x
            have := mv_nn (z - 2147483648)
            omega
        rcases hz.2 with rfl | hzr
        · rcases hx.2 with rfl | hxr
          · exfalso
            revert hs; decide
          · exfalso
            have h1 := mv_lt (a := 0) (b := x % 2147483648) (by decide) (by omega) (by omega)
            rw [mv_mod x fx.1, show mv 0 = 0 by decide] at h1
            have : vz x = 0 := by rw [exz, hz0]
            unfold vz sv at this
            split at this <;> omega
        · exfalso
          have h1 := mv_lt (a := 0) (b := z % 2147483648) (by decide) (by omega) (by omega)
          rw [mv_mod z fz.1, show mv 0 = 0 by decide] at h1
          unfold vz sv at hz0
          split at hz0 <;> omega
      · rw [if_neg (fun q => hs q.2)]
        rfl
    rw [e]
    exact ⟨fnt_lit (by decide), Or.inl ⟨exz, rfl⟩⟩
  · by_cases h1 : m < k
    · have d1 := Int.mul_le_mul_of_nonneg_right (show 1 ≤ k - m by omega) (Int.le_of_lt P)
      have d2 := Int.mul_le_mul_of_nonneg_right (show k - m ≤ 268435456 by omega) (Int.le_of_lt P)
      rw [Int.sub_mul] at d1 d2
      have := subf_in fx fz f1 f2 (by rw [v1, ek, em]; omega) (by rw [v2, ek, em]; omega)
      rw [v1, v2] at this
      exact ⟨this.1, Or.inr (Or.inl ⟨by rw [ek, em]; omega, this.2⟩)⟩
    · have d1 := Int.mul_le_mul_of_nonneg_right (show 1 ≤ m - k by omega) (Int.le_of_lt P)
      have d2 := Int.mul_le_mul_of_nonneg_right (show m - k ≤ 268435456 by omega) (Int.le_of_lt P)
      rw [Int.sub_mul] at d1 d2
      have := subf_in fx fz g2.1 g1.1 (by rw [g2.2, v2, ek, em]; omega) (by rw [g1.2, v1, ek, em]; omega)
      rw [g1.2, g2.2, v1, v2] at this
      exact ⟨this.1, Or.inr (Or.inr ⟨by rw [ek, em]; omega, this.2⟩)⟩
end Go.Proofs.Ytfpjkmgfkaoapaa.VI

namespace Go.Proofs.Ytfpjkmgfkaoapaa.VI
set_option linter.unusedVariables false
set_option linter.unusedSimpArgs false
set_option maxRecDepth 100000
noncomputable def O_93 : Orc := (orm c_94 (orm c_95 (orm c_96 c_97)))
theorem okO_93 : OrcOk PR O_93 := (orm_ok ok_94 (orm_ok ok_95 (orm_ok ok_96 ok_97)))
abbrev fa_93 : Fm := (.pair (.i .u8) (.pair (.i .u8) (.pair (.si .u32) (.pair (.si .u32) .unit))))
abbrev fr_93 : Fm := .b
abbrev ff_93_0 : Fm := (.us 9 (.cst (.ref 0 1 0) (.cst (.ref 1 1 0) (.pair (.i .u32) (.cst (.ref 2 1 0) (.us 1 (.pair .b (.pair (.i .i64) (.us 90 .unit)))))))))
abbrev hf_93_0 : List BF := [(.list 1 y_90 true (.pair (.i .i64) (.pair (.i .i64) (.pair (.i .i64) (.pair (.si .u32) .unit))))), (.list 1 y_90 true (.pair (.i .i64) (.pair (.i .i64) (.pair (.i .i64) (.pair (.si .u32) .unit))))), (.list 1 y_90 true (.pair (.i .i64) (.pair (.i .i64) (.pair (.i .i64) (.pair (.si .u32) .unit)))))]
abbrev X_93_0 : Xs := (.alt (.exit 0) [11, 14] (.us 11 (.pair (.i .u32) (.us 2 (.pair .b (.us 91 .unit))))) [] (.one .ret [8] (.us 8 (.pair .b (.us 97 .unit))) []))
abbrev S_93_0 : Type := T ff_93_0 × TH hf_93_0
abbrev E_93_0 : Type := TX X_93_0
noncomputable def LB_93_0 : Lps := L0
noncomputable def st_93_0 : StepT S_93_0 E_93_0 := fun R v kn ko =>
 let x0 : List Int := v.2.1.2.2.2.1
 let x1 : Int := v.1.2.2.1
 let x2 : Nat := (Int.toNat x1)
 let x3 : List Int := v.2.2.1.2.2.2.1
 let x4 : List Int := v.2.2.2.1.2.2.2.1
 let x5 : Bool := v.1.2.1
 let x6 : Int := v.1.1
 bif (decide (x1 < (((List.length x0) : Nat) : Int))) then
 bif (decide (((0:Int) ≤ x1) ∧ (x1 < (((List.length x0) : Nat) : Int)))) then
 bif (decide (((0:Int) ≤ x1) ∧ (x1 < (((List.length x3) : Nat) : Int)))) then
 ((F_97 (2:Int) (List.getD x0 x2 (0:Int)) (List.getD x3 x2 (0:Int)))).bind fun r7 =>
 bif (decide (((0:Int) ≤ x1) ∧ (x1 < (((List.length x4) : Nat) : Int)))) then
 ((F_97 (2:Int) (List.getD x4 x2 (0:Int)) (0:Int))).bind fun r8 =>
 bif (r7.1 != r8.1) then
 (ko (Sum.inr ((false, ()), ())))
 else
 bif x5 then
 (kn ((x6, ((r7.1 == (0:Int)), ((IntKind.wrap .i64 (x1 + (1:Int))), ()))), ((v.2.1.1, (v.2.1.2.1, (v.2.1.2.2.1, ((List.take (List.length x0) x0), ())))), ((v.2.2.1.1, (v.2.2.1.2.1, (v.2.2.1.2.2.1, ((List.take (List.length x3) x3), ())))), ((v.2.2.2.1.1, (v.2.2.2.1.2.1, (v.2.2.2.1.2.2.1, ((List.take (List.length x4) x4), ())))), ())))))
 else
 (kn ((x6, (false, ((IntKind.wrap .i64 (x1 + (1:Int))), ()))), ((v.2.1.1, (v.2.1.2.1, (v.2.1.2.2.1, ((List.take (List.length x0) x0), ())))), ((v.2.2.1.1, (v.2.2.1.2.1, (v.2.2.1.2.2.1, ((List.take (List.length x3) x3), ())))), ((v.2.2.2.1.1, (v.2.2.2.1.2.1, (v.2.2.2.1.2.2.1, ((List.take (List.length x4) x4), ())))), ())))))
 else
 none
 else
 none
 else
 none
 else
 (ko (Sum.inl ((x6, (x5, ())), ())))
noncomputable def ls_93_0 : St → LTr := (lsum ff_93_0 hf_93_0 X_93_0 Prod.mk id st_93_0 (hd [] [] [9, 10, 11, 12, 14, 15] 0))
theorem lp_93_0 : LoopOk PR 0 (lpN f_93 0) ls_93_0 := loopT okO_93 mixed (L := LB_93_0) (d := 1) (bs := []) (ks := [9, 10, 11, 12, 14, 15]) (loopsL (l := []) (by kernel_rfl) trivial) (by kernel_rfl) (inS := Prod.mk) (outS := id) (fun _ _ => rfl) (inX := id) (outX := id) (fun _ => rfl) (fun v R kn ko => by kernel_rfl) (hd_wk [] [] [9, 10, 11, 12, 14, 15] 0)
noncomputable def L_93 : Lps := (lpB 13 (.by_ ls_93_0) L0)
noncomputable def F_93 (a0 : Int) (a1 : Int) (a2 : List Int) (a3 : List Int) : Option (Bool) :=
 (F_94).bind fun r0 =>
 bif (!r0) then
 (some false)
 else
 bif (decide ((((List.length a2) : Nat) : Int) > (30:Int))) then
 (some true)
 else
 bif (decide ((((List.length a3) : Nat) : Int) > (30:Int))) then
 (some true)
 else
 ((F_95 (IntKind.wrap .i64 ((IntKind.wrap .i64 (Int.tmod a0 (4:Int))) + (1:Int))) (IntKind.wrap .i64 ((IntKind.wrap .i64 (Int.tmod a1 (4:Int))) + (1:Int))) (2:Int) (List.take (List.length a2) a2) true)).bind fun r1 =>
 let x2 : Int := r1.2.2.1
 let x3 : List Int := r1.2.2.2.1
 let x4 : Nat := (List.length x3)
 ((F_95 r1.1 r1.2.1 (2:Int) (List.take (List.length a3) a3) true)).bind fun r5 =>
 let x6 : Int := r5.2.2.1
 let x7 : List Int := r5.2.2.2.1
 ((F_96 (r1.1, (r1.2.1, (x2, ((List.take x4 x3), ())))) (r5.1, (r5.2.1, (x6, ((List.take (List.length x7) x7), ())))))).bind fun r8 =>
 let x9 : Int := r8.2.2.1
 let x10 : List Int := r8.2.1.2.2.2.1
 let x11 : Nat := (List.length x10)
 let x12 : Int := r8.2.1.1
 let x13 : Int := r8.2.1.2.1
 let x14 : Int := r8.2.1.2.2.1
 bif (x9 != (0:Int)) then
 (some false)
 else
 bif (((x11 : Nat) : Int) != ((x4 : Nat) : Int)) then
 (some false)
 else
 ((lim st_93_0 ((r8.1, (true, ((0:Int), ()))), ((r1.1, (r1.2.1, (x2, ((List.take x4 x3), ())))), ((r5.1, (r5.2.1, (x6, ((List.take (List.length x7) x7), ())))), ((x12, (x13, (x14, ((List.take x11 x10), ())))), ())))))).bind fun r15 =>
 els (fun l16 =>
 let x18 : Bool := l16.1.2.1
 (some ((l16.1.1 == (0:Int)) == x18))) (fun r17 =>
 (some r17.1.1)) r15
noncomputable def G_93 : T fa_93 → TH hN0 → Option (Bool) := fun x y => F_93 x.1 x.2.1 x.2.2.1 x.2.2.2.1
noncomputable def c_93 : Orc := ent i_93 [] 0 (sp fa_93 hN0 fr_93 hN0 G_93 (outN fr_93))
theorem ok_93 : OrcOk PR c_93 := fnT okO_93 mixed p_93 (by kernel_rfl) (by kernel_rfl) (L := L_93) (kp := false) (by kernel_rfl) (inn := (innN fr_93)) (out := (outN fr_93)) (fun _ _ => rfl) (loopsL (l := [((lpN f_93 0), ls_93_0)]) (by kernel_rfl) ⟨lp_93_0, trivial⟩) (fun x y => by kernel_rfl)
end Go.Proofs.Ytfpjkmgfkaoapaa.VI

namespace Go.Proofs.Ytfpjkmgfkaoapaa.VI
set_option linter.unusedVariables false
set_option linter.unusedSimpArgs false
set_option maxRecDepth 100000
set_option maxHeartbeats 8000000
set_option exponentiation.threshold 2000
theorem len_code {n : Nat} (h0 : 1 ≤ n) (h1 : n ≤ 16) : ∃ b, intf (n : Int) = b ∧ 0 ≤ b ∧ b < 2139095040 ∧ mv b = (n : Int) * 2 ^ 149 ∧ zr 2 b = false ∧ xp 2 b ≤ 104 := by
  have P : (0 : Int) < 2 ^ 149 := p2_pos 149
  obtain ⟨f, v⟩ := int_exact (n := (n : Int)) (by omega)
  have hp : 0 < vz (intf (n : Int)) := by rw [v]; exact Int.mul_pos (by omega) P
  obtain ⟨b0, b1, b2⟩ := neg_pos_code f hp
  have xb := xp_bd 2 (intf (n : Int))
  obtain ⟨p1, p2, p3, p4, p5, p6⟩ := code_parts b0 b1
  have up : intf (n : Int) ≤ 1098907648 := mv_code_le b0 (by decide) (by decide) b1 (by
    rw [← b2, v, show mv 1098907648 = 16 * 2 ^ 149 by decide +kernel]
    exact Int.mul_le_mul_of_nonneg_right (by omega) (Int.le_of_lt P))
  refine ⟨_, rfl, b0, b1, by rw [← b2, v], ?_, by omega⟩
  unfold zr; apply decide_eq_false; rw [show TT 2 = 2147483648 from rfl]
  intro k
  have : intf (n : Int) = 0 := by omega
  rw [this] at hp
  revert hp; decide
theorem div_sign {a b : Int} {n : Nat} (fa : fnt a) (b0 : 0 ≤ b) (b1 : b < 2139095040) (hb : mv b = (n : Int) * 2 ^ 149) (zb : zr 2 b = false) (xb : xp 2 b ≤ 104) (h0 : 1 ≤ n) (h1 : n ≤ 16) (lo : 2 ^ 90 ≤ mv a) (hi : mv a ≤ 2 ^ 200) :
    fnt (divf a b) ∧ (0 < vz a → 0 < vz (divf a b) ∧ 0 < divf a b) ∧ (vz a < 0 → vz (divf a b) < 0) := by
  have P : (0 : Int) < 2 ^ 149 := p2_pos 149
  have za : zr 2 a = false := by
    rw [Bool.eq_false_iff]; intro q
    rw [zr2] at q
    have : mv a = 0 := by rw [← mv_mod a fa.1, q]; decide
    have := p2_pos 90
    omega
  obtain ⟨fb, vb⟩ := code_fnt b0 b1
  have hm := code_parts (c := a % 2147483648) (by omega) fa.2
  have xa : xp 2 a - (61 - (lg (sig 2 a) : Int)) ≥ -180 := by
    have sp : 0 < sig 2 a := by
      have e : mv a = sig 2 a * 2 ^ (xp 2 a + 149).toNat := rfl
      have p := p2_pos (xp 2 a + 149).toNat
      apply Int.lt_of_not_ge; intro q
      have := Int.mul_le_mul_of_nonneg_right q (Int.le_of_lt p)
      rw [Int.zero_mul, ← e] at this
      have := p2_pos 90
      omega
    have l := lg_lt sp
    have xb2 := xp_bd 2 a
    have e : mv a = sig 2 a * 2 ^ (xp 2 a + 149).toNat := rfl
    have q := Int.mul_lt_mul_of_pos_right l (p2_pos (xp 2 a + 149).toNat)
    rw [← e, ← p2_add] at q
    have := p2_inj (show (2 : Int) ^ 90 < 2 ^ (lg (sig 2 a) + 1 + (xp 2 a + 149).toNat) by omega)
    omega
  obtain ⟨M, m0, m1, hM, hu, hl⟩ := div_mag fa fb za zb (by omega)
  have M1 : 1 ≤ M := by
    apply hl 1 (by decide) (by decide)
    rw [show mv 1 = 1 by decide, Int.one_mul, hb]
    apply Int.mul_le_mul_of_nonneg_right _ (Int.le_of_lt P)
    have : (16 : Int) ≤ 2 ^ 90 := by decide
    omega
  have M2 : M ≤ 2139095038 := by
    apply hu _ (by decide) (by decide)
    rw [hb]
    have k0 : (2 : Int) ^ 200 ≤ mv 2139095038 := by decide +kernel
    have k1 : mv a * 2 ^ 149 ≤ mv 2139095038 * 2 ^ 149 := Int.mul_le_mul_of_nonneg_right (by omega) (Int.le_of_lt P)
    have k2 : mv 2139095038 * (1 * 2 ^ 149) ≤ mv 2139095038 * ((n : Int) * 2 ^ 149) := Int.mul_le_mul_of_nonneg_left (Int.mul_le_mul_of_nonneg_right (by omega) (Int.le_of_lt P)) (mv_nn _)
    rw [Int.one_mul] at k2
    omega
  have sb : sg 2 b = false := by rw [sgd fb.1]; simp; omega
  rw [sb] at hM
  have mp := mv_lt (a := 0) (b := M) (by decide) (by omega) (by omega)
  rw [show mv 0 = 0 by decide] at mp
  cases hs : sg 2 a
  · rw [hs] at hM
    have e0 : divf a b = M := by rw [hM]; show 0 + M = M; omega
    obtain ⟨fM, vM⟩ := code_fnt m0 (show M < 2139095040 by omega)
    rw [e0]
    refine ⟨fM, fun _ => ⟨by rw [vM]; exact mp, by omega⟩, fun h => ?_⟩
    exfalso
    unfold vz sv at h; rw [hs] at h
    have := mv_nn a
    simp at h; omega
  · rw [hs] at hM
    have e0 : divf a b = M + 2147483648 := by rw [hM]; show 2147483648 + M = _; omega
    have w : w32 (M + 2147483648) := ⟨by omega, by omega⟩
    have vM := vz_neg w (by omega)
    rw [show M + 2147483648 - 2147483648 = M by omega] at vM
    rw [e0]
    refine ⟨⟨w, by omega⟩, fun h => ?_, fun _ => by rw [vM]; omega⟩
    exfalso
    unfold vz sv at h; rw [hs] at h
    have := mv_nn a
    simp at h; omega
theorem mv_abs (a : Int) : mv a = vz a ∨ mv a = -vz a := by
  unfold vz sv; split
  · right; omega
  · left; rfl
theorem grad_sign {x z : Int} {n : Nat} (hx : mld x) (hz : mld z) (h0 : 1 ≤ n) (h1 : n ≤ 16) :
    w32 (divf (addf (subf x z) (subf x z)) (intf (n : Int))) ∧ (cmp 2 (divf (addf (subf x z) (subf x z)) (intf (n : Int))) 0).1 = (cmp 2 x z).1 := by
  obtain ⟨b, hb, b0, b1, b2, zb, xb⟩ := len_code h0 h1
  rw [hb]
  refine ⟨divf_w _ _, ?_⟩
  have fx := (mld_vz hx).1
  have fz := (mld_vz hz).1
  have f0 : fnt 0 := fnt_lit (by decide)
  have v0 : vz 0 = 0 := by decide
  rw [cmp_vz fx fz]
  obtain ⟨fd, cs⟩ := mld_sub hx hz
  have v1 : vz 864026624 = 2 ^ 125 := by decide +kernel
  have v2 : vz 1098907648 = 2 ^ 153 := by decide +kernel
  have f1 : fnt 864026624 := fnt_lit (by decide)
  have f2 : fnt 1098907648 := fnt_lit (by decide)
  have g1 := turn_fin f1
  have g2 := turn_fin f2
  have e125 : (2 : Int) ^ 125 = 2 * 2 ^ 124 := rfl
  have e153 : (2 : Int) ^ 153 = 2 * 2 ^ 152 := rfl
  have l90 : (2 : Int) ^ 90 ≤ 2 ^ 125 := by decide
  have l200 : (2 : Int) ^ 153 ≤ 2 ^ 200 := by decide
  have p125 : (0 : Int) < 2 ^ 125 := p2_pos 125
  rcases cs with ⟨e, d⟩ | ⟨e, d1, d2⟩ | ⟨e, d1, d2⟩
  · rw [d, show addf 0 0 = 0 by decide, e]
    have : divf 0 b = 0 := by
      obtain ⟨fb, _⟩ := code_fnt b0 b1
      have sb : sg 2 b = false := by rw [sgd fb.1]; simp; omega
      unfold divf divS
      rw [fin_nan fb, fin_inf fb, zb, sb, show nan 2 0 = false by decide, show inff 2 0 = false by decide, show zr 2 0 = true by decide, show sg 2 0 = false by decide]
      rfl
    rw [this, cmp_vz f0 f0]
    simp
  · have A := addf_in fd fd f1 f2 (by rw [v1]; omega) (by rw [v2]; omega)
    rw [v1, v2] at A
    have mA := mv_abs (addf (subf x z) (subf x z))
    have mn := mv_nn (addf (subf x z) (subf x z))
    obtain ⟨fg, pg, _⟩ := div_sign A.1 b0 b1 b2 zb xb h0 h1 (by omega) (by omega)
    have := (pg (by omega)).1
    rw [cmp_vz fg f0, v0, if_neg (by omega), if_pos this, if_neg (by omega), if_pos e]
  · have A := addf_in fd fd g2.1 g1.1 (by rw [g2.2, v2]; omega) (by rw [g1.2, v1]; omega)
    rw [g1.2, g2.2, v1, v2] at A
    have mA := mv_abs (addf (subf x z) (subf x z))
    have mn := mv_nn (addf (subf x z) (subf x z))
    obtain ⟨fg, _, ng⟩ := div_sign A.1 b0 b1 b2 zb xb h0 h1 (by omega) (by omega)
    have := ng (by omega)
    rw [cmp_vz fg f0, v0, if_pos this, if_pos e]
def alk (X Z : Nat → Int) : Nat → Bool
  | 0 => true
  | i + 1 => alk X Z i && ((cmp 2 (X i) (Z i)).1 == 0)
theorem mse_sum {X Z : Nat → Int} (hX : ∀ i, mld (X i)) (hZ : ∀ i, mld (Z i)) : ∀ i : Nat, i ≤ 16 →
    (mseA X Z i = 0 ∧ alk X Z i = true) ∨ (fnt (mseA X Z i) ∧ 2 ^ 99 ≤ vz (mseA X Z i) ∧ vz (mseA X Z i) ≤ (i : Int) * 2 ^ 155 ∧ alk X Z i = false)
  | 0, _ => Or.inl ⟨rfl, rfl⟩
  | i + 1, hi => by
    have P : (0 : Int) < 2 ^ 149 := p2_pos 149
    have P155 : (0 : Int) < 2 ^ 155 := p2_pos 155
    have ih := mse_sum hX hZ i (by omega)
    obtain ⟨fd, cs⟩ := mld_sub (hX i) (hZ i)
    have fx := (mld_vz (hX i)).1
    have fz := (mld_vz (hZ i)).1
    have hc := cmp_vz fx fz
    have ea : alk X Z (i + 1) = (alk X Z i && ((cmp 2 (X i) (Z i)).1 == 0)) := rfl
    have em : mseA X Z (i + 1) = fma (subf (X i) (Z i)) (subf (X i) (Z i)) (mseA X Z i) := rfl
    rw [ea, em, hc]
    have f99 : fnt 645922816 := fnt_lit (by decide)
    have v99 : vz 645922816 = 2 ^ 99 := by decide +kernel
    obtain ⟨ch, h1, h2, h3⟩ := code_of (k := (i : Int) + 1) (e := 155) (by omega) (by omega) (by decide)
    obtain ⟨fh, vh⟩ := code_fnt h1 h2
    have f0 : fnt 0 := fnt_lit (by decide)
    have v0 : vz 0 = 0 := by decide
    have c248 : (2 : Int) ^ 124 * 2 ^ 124 = 2 ^ 99 * 2 ^ 149 := by decide +kernel
    have c304 : (2 : Int) ^ 152 * 2 ^ 152 = 2 ^ 155 * 2 ^ 149 := by decide +kernel
    have p124 : (0 : Int) < 2 ^ 124 := p2_pos 124
    have big : ∀ d : Int, fnt d → (2 ^ 124 ≤ vz d ∧ vz d ≤ 2 ^ 152 ∨ -(2 ^ 152) ≤ vz d ∧ vz d ≤ -(2 ^ 124)) → 2 ^ 99 * 2 ^ 149 ≤ vz d * vz d ∧ vz d * vz d ≤ 2 ^ 155 * 2 ^ 149 := by
      intro d fd h
      rcases h with ⟨a, b⟩ | ⟨a, b⟩
      · have k1 := Int.mul_le_mul a a (Int.le_of_lt p124) (by omega)
        have k2 := Int.mul_le_mul b b (by omega) (by have := p2_pos 152; omega)
        rw [c248] at k1; rw [c304] at k2
        exact ⟨k1, k2⟩
      · have k1 := Int.mul_le_mul (show 2 ^ 124 ≤ -vz d by omega) (show 2 ^ 124 ≤ -vz d by omega) (Int.le_of_lt p124) (by omega)
        have k2 := Int.mul_le_mul (show -vz d ≤ 2 ^ 152 by omega) (show -vz d ≤ 2 ^ 152 by omega) (by omega) (by have := p2_pos 152; omega)
        rw [c248, Int.neg_mul_neg] at k1; rw [c304, Int.neg_mul_neg] at k2
        exact ⟨k1, k2⟩
    have e1 : ((i : Int) + 1) * 2 ^ 155 = (i : Int) * 2 ^ 155 + 2 ^ 155 := by rw [Int.add_mul, Int.one_mul]
    have step : ∀ A : Int, fnt A → 0 ≤ vz A → vz A ≤ (i : Int) * 2 ^ 155 → (2 ^ 124 ≤ vz (subf (X i) (Z i)) ∧ vz (subf (X i) (Z i)) ≤ 2 ^ 152 ∨ -(2 ^ 152) ≤ vz (subf (X i) (Z i)) ∧ vz (subf (X i) (Z i)) ≤ -(2 ^ 124)) →
        fnt (fma (subf (X i) (Z i)) (subf (X i) (Z i)) A) ∧ 2 ^ 99 ≤ vz (fma (subf (X i) (Z i)) (subf (X i) (Z i)) A) ∧ vz (fma (subf (X i) (Z i)) (subf (X i) (Z i)) A) ≤ ((i + 1 : Nat) : Int) * 2 ^ 155 := by
      intro A fA a0 a1 hd
      obtain ⟨b1, b2⟩ := big _ fd hd
      have a0' := Int.mul_nonneg a0 (Int.le_of_lt P)
      have a1' := Int.mul_le_mul_of_nonneg_right a1 (Int.le_of_lt P)
      have := fma_in fd fd fA f99 fh (by rw [v99]; omega) (by rw [vh, h3, e1, Int.add_mul]; omega)
      rw [v99, vh, h3] at this
      refine ⟨this.1, this.2.1, ?_⟩
      rw [show ((i + 1 : Nat) : Int) = (i : Int) + 1 by omega]
      exact this.2.2
    rcases cs with ⟨e, d⟩ | ⟨e, d1, d2⟩ | ⟨e, d1, d2⟩
    · rw [d, e]
      simp only [Int.lt_irrefl, if_false, beq_self_eq_true, Bool.and_true]
      rcases ih with ⟨a, al⟩ | ⟨fA, a1, a2, al⟩
      · left; rw [a, al]; exact ⟨by decide, rfl⟩
      · right
        have := fma_in f0 f0 fA fA fA (by rw [v0]; simp) (by rw [v0]; simp)
        refine ⟨this.1, by omega, ?_, al⟩
        have e2 : ((i + 1 : Nat) : Int) * 2 ^ 155 = (i : Int) * 2 ^ 155 + 2 ^ 155 := by rw [show ((i + 1 : Nat) : Int) = (i : Int) + 1 by omega, e1]
        omega
    · right
      rw [if_neg (by omega), if_pos e]
      rcases ih with ⟨a, al⟩ | ⟨fA, a1, a2, al⟩
      · have := step 0 f0 (by rw [v0]; omega) (by rw [v0]; exact Int.mul_nonneg (by omega) (Int.le_of_lt P155)) (Or.inl ⟨d1, d2⟩)
        rw [a]; exact ⟨this.1, this.2.1, this.2.2, by simp⟩
      · have := step _ fA (by have := p2_pos 99; omega) a2 (Or.inl ⟨d1, d2⟩)
        exact ⟨this.1, this.2.1, this.2.2, by simp⟩
    · right
      rw [if_pos e]
      rcases ih with ⟨a, al⟩ | ⟨fA, a1, a2, al⟩
      · have := step 0 f0 (by rw [v0]; omega) (by rw [v0]; exact Int.mul_nonneg (by omega) (Int.le_of_lt P155)) (Or.inr ⟨d1, d2⟩)
        rw [a]; exact ⟨this.1, this.2.1, this.2.2, by simp⟩
      · have := step _ fA (by have := p2_pos 99; omega) a2 (Or.inr ⟨d1, d2⟩)
        exact ⟨this.1, this.2.1, this.2.2, by simp⟩
theorem lossMse {m n : Int} (l r : List Int) (hm : 0 ≤ m) (hn : 0 ≤ n) : F_93 m n l r = some true := by
  have t4 : ∀ a : Int, 0 ≤ a → ∃ k : Nat, IntKind.wrap .i64 (IntKind.wrap .i64 (Int.tmod a 4) + 1) = k ∧ 1 ≤ k ∧ k ≤ 4 := by
    intro a h
    refine ⟨(a % 4 + 1).toNat, ?_, by omega, by omega⟩
    rw [tmod_nn h, wi64 (n := a % 4) (by omega), wi64 (by omega)]; omega
  unfold F_93
  dsimp only
  simp only [List.take_length]
  rw [known16]
  simp only [Option.bind_some, Bool.not_true, cond_false, bif_dec]
  by_cases ll : (((l.length : Nat) : Int) > 30)
  · rw [if_pos ll]
  rw [if_neg ll]
  by_cases lr : (((r.length : Nat) : Int) > 30)
  · rw [if_pos lr]
  rw [if_neg lr]
  obtain ⟨M, eM, M1, M4⟩ := t4 m hm
  obtain ⟨N, eN, N1, N4⟩ := t4 n hn
  rw [eM, eN]
  obtain ⟨V, h1, l1, w1, p1⟩ := seatTm M N 2 l true (by omega) (by omega) (by omega)
  obtain ⟨U, h2, l2, w2, p2⟩ := seatTm M N 2 r true (by omega) (by omega) (by omega)
  have p1 := p1 rfl
  have p2 := p2 rfl
  rw [h1]
  simp only [Option.bind_some, List.take_length]
  rw [h2]
  simp only [Option.bind_some, List.take_length]
  have b1 : M * N ≤ 16 := Nat.mul_le_mul M4 N4
  have b0 : 1 ≤ M * N := Nat.mul_le_mul M1 N1
  have W1 := wf_wl w1
  have W2 := wf_wl w2
  have r1 : rightS ((M : Int), (N : Int), 2, V, ()) = true := wf_right (by omega) (by omega) l1 (by decide) w1
  have r2 : rightS ((M : Int), (N : Int), 2, U, ()) = true := wf_right (by omega) (by omega) l2 (by decide) w2
  have x1 := wide_mild M N V (fun v hv => (p1 v hv).1) w1
  have x2 := wide_mild M N U (fun v hv => (p2 v hv).1) w2
  have md : ∀ (L : List Int), (∀ v ∈ L, mlP 2 v) → (∀ v ∈ L, wf 2 v) → ∀ i, mld (gl L i) := by
    intro L a b i
    by_cases hi : i < L.length
    · have hmem := List.getElem_mem hi
      have e : gl L i = L[i] := gtd hi 0
      rw [e]
      exact ⟨wf_w (b _ hmem), (a _ hmem).2 rfl⟩
    · have e : gl L i = 0 := by unfold gl; rw [List.getD_eq_getElem?_getD, List.getElem?_eq_none (by omega)]; rfl
      rw [e]; exact ⟨w0, Or.inl rfl⟩
  have mV := md V p1 w1
  have mU := md U p2 w2
  have hM := mse_eq ((M : Int), (N : Int), 2, V, ()) ((M : Int), (N : Int), 2, U, ()) W1 (by simp only; omega) W2 (by simp only; omega)
  have hT : mseT ((M : Int), (N : Int), 2, V, ()) ((M : Int), (N : Int), 2, U, ()) = (divf (mseA (gl V) (gl U) V.length) (intf V.length), ((M : Int), (N : Int), 2, (List.range V.length).map (mseH (gl V) (gl U) (intf V.length)), ()), 0, ()) := by
    unfold mseT
    rw [r1, r2, x1, x2]
    simp only [Bool.and_self, decide_true, Bool.and_true, if_true]
    rw [if_neg (show ¬ (M : Int) = 0 by omega)]
  rw [hM, hT]
  simp only [Option.bind_some, bif_ne, if_true, List.length_map, List.length_range, List.take_length]
  have hg : ∀ i, i < V.length → ((List.range V.length).map (mseH (gl V) (gl U) (intf V.length))).getD i 0 = mseH (gl V) (gl U) (intf V.length) i := fun i hi => gl_mapA hi
  have hgl : ((List.range V.length).map (mseH (gl V) (gl U) (intf V.length))).length = V.length := by simp
  have hS := mse_sum (X := gl V) (Z := gl U) mV mU V.length (by omega)
  obtain ⟨b, hb, c0, c1, c2, zb, xb⟩ := len_code (n := V.length) (by omega) (by omega)
  have hv : ((divf (mseA (gl V) (gl U) V.length) (intf V.length) == 0) == alk (gl V) (gl U) V.length) = true := by
    rw [hb]
    rcases hS with ⟨a, al⟩ | ⟨fA, a1, a2, al⟩
    · rw [a, al]
      have : divf 0 b = 0 := by
        obtain ⟨fb, _⟩ := code_fnt c0 c1
        have sb : sg 2 b = false := by rw [sgd fb.1]; simp; omega
        unfold divf divS
        rw [fin_nan fb, fin_inf fb, zb, sb, show nan 2 0 = false by decide, show inff 2 0 = false by decide, show zr 2 0 = true by decide, show sg 2 0 = false by decide]
        rfl
      rw [this]; rfl
    · rw [al]
      have l99 : (2 : Int) ^ 90 ≤ 2 ^ 99 := by decide
      have l200 : (16 : Int) * 2 ^ 155 ≤ 2 ^ 200 := by decide
      have mA := mv_abs (mseA (gl V) (gl U) V.length)
      have mn := mv_nn (mseA (gl V) (gl U) V.length)
      have k := Int.mul_le_mul_of_nonneg_right (show (V.length : Int) ≤ 16 by omega) (show (0 : Int) ≤ 2 ^ 155 by have := p2_pos 155; omega)
      have p99 := p2_pos 99
      obtain ⟨fg, pg, _⟩ := div_sign fA c0 c1 c2 zb xb (by omega) (by omega) (by omega) (by omega)
      have := (pg (by omega)).2
      have e : (divf (mseA (gl V) (gl U) V.length) b == 0) = false := by simp; omega
      rw [e]; rfl
  generalize divf (mseA (gl V) (gl U) V.length) (intf V.length) = v at *
  generalize hG : (List.range V.length).map (mseH (gl V) (gl U) (intf V.length)) = G at *
  have := lim_seq (st := st_93_0) (fun i => ((v, (alk (gl V) (gl U) i, ((i : Int), ()))), (((M : Int), ((N : Int), ((2 : Int), (V, ())))), (((M : Int), ((N : Int), ((2 : Int), (U, ())))), (((M : Int), ((N : Int), ((2 : Int), (G, ())))), ())))))
    (b := Sum.inl ((v, (alk (gl V) (gl U) V.length, ())), ())) V.length
    (fun i hi Q kn ko => by
      obtain ⟨gw, gs⟩ := grad_sign (mV i) (mU i) (show 1 ≤ V.length by omega) (by omega)
      have hgi : G.getD i 0 = divf (addf (subf (gl V i) (gl U i)) (subf (gl V i) (gl U i))) (intf V.length) := hg i hi
      unfold st_93_0
      dsimp only
      simp only [List.take_length]
      simp only [bif_dec, Int.toNat_natCast, hgl]
      rw [if_pos (show (i : Int) < (V.length : Int) by omega), if_pos (show 0 ≤ (i : Int) ∧ (i : Int) < (V.length : Int) by omega), if_pos (show 0 ≤ (i : Int) ∧ (i : Int) < (U.length : Int) by omega), cmpr_eq 2 (wl_get W1 i) (wl_get W2 i)]
      simp only [Option.bind_some]
      rw [if_pos (show 0 ≤ (i : Int) ∧ (i : Int) < (V.length : Int) by omega), hgi, cmpr_eq 2 gw w0]
      simp only [Option.bind_some, bif_ne]
      rw [gs, if_pos (show (cmp 2 (V.getD i 0) (U.getD i 0)).1 = (cmp 2 (gl V i) (gl U i)).1 from rfl), wi64 (by omega), show ((i + 1 : Nat) : Int) = (i : Int) + 1 by omega]
      have ea : alk (gl V) (gl U) (i + 1) = (alk (gl V) (gl U) i && ((cmp 2 (gl V i) (gl U i)).1 == 0)) := rfl
      rw [ea]
      cases alk (gl V) (gl U) i <;> rfl)
    (fun Q kn ko => by
      unfold st_93_0
      dsimp only
      simp only [List.take_length, bif_dec]
      rw [if_neg (show ¬ (V.length : Int) < (V.length : Int) by omega)])
  rw [show lim st_93_0 ((v, (true, ((0 : Int), ()))), (((M : Int), ((N : Int), ((2 : Int), (V, ())))), (((M : Int), ((N : Int), ((2 : Int), (U, ())))), (((M : Int), ((N : Int), ((2 : Int), (G, ())))), ())))) = _ from this]
  show some ((v == 0) == alk (gl V) (gl U) V.length) = some true
  rw [hv]
theorem callLossMse : ∀ l, args [.i .u8, .i .u8, .ints .u32, .ints .u32] l → oks l → CallOk PR i_93 l [] fun r _ => r = .b true :=
  rowT (fa := fa_93) (F := G_93) rfl rfl ok_93 (enters p_93 (by kernel_rfl) (by kernel_rfl)) rfl fun x hx =>
    lossMse _ _ hx.1.1 hx.2.1.1
end Go.Proofs.Ytfpjkmgfkaoapaa.VI

namespace Go.Proofs.Ytfpjkmgfkaoapaa.VI
set_option linter.unusedVariables false
set_option linter.unusedSimpArgs false
open Go.ChangeShapes Go.WideShapes Go.RowKit Go.WideElems Ytfpjkmgfkaoapaa
set_option maxRecDepth 100000
theorem laid : laidOutB Try.prog = true := by kernel_rfl
theorem own : ownKnob Try.prog.godebug = none := by kernel_rfl
theorem lifted (os : Os) (started : os.Started) (H : Type) (enc : TypeId × Value → H) :
    ReturnsInHanded {} Try.checked os 3 .any (Rows.lossMseSpec.pre6 enc Try.prog Try.f3 Rows.lossMseRow.domain false) (Rows.lossMseSpec.post enc Try.prog Try.f3 false true false false) :=
  lift_args (C := Try.checked) own started (by kernel_rfl) Try.func3
    (ChangeSpec.witness6 (enc := enc) (C := Try.checked) false ⟨#[], #[.int .u8 0, .int .u8 0, .slice none 0 0, .slice none 0 0], []⟩ 8 (by kernel_rfl) (by kernel_rfl) (by kernel_rfl) (by kernel_rfl))
    laid Try.underlying4 rfl (by kernel_rfl) rfl (fun ds hd => match ds, hd with
    | [_, _, _, _], _ => rfl) (d := 6) (by kernel_rfl) (Fs := [.i .u8, .i .u8, .ints .u32, .ints .u32]) (by kernel_rfl) callLossMse
theorem over : Rows.lossMseRow.holds Try.pinned (OpenSpec.ofChange Rows.lossMseSpec) :=
  OpenClaim.holds_of_wide 3 Try.f3 rfl rfl rfl rfl rfl rfl rfl ⟨rfl, rfl, rfl, rfl, rfl⟩ rfl rfl rfl rfl rfl (by kernel_rfl) Try.func3 (by kernel_rfl)
    (of_decide_eq_true (by kernel_rfl)) (by unfold Func.isWrapper; first | (rw [if_pos (by decide +kernel)]; kernel_rfl) | (rw [if_neg (by decide +kernel)]; exact ⟨rfl, rfl⟩))
    (fun os started H enc _ => lifted os started H enc)
end Go.Proofs.Ytfpjkmgfkaoapaa.VI
