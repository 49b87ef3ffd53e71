import Derived.Test.YtkknnloamidaiaaT180eecb4
import Derived.Test.YtkknnloamidaiaaRows
import Derived.WalkKit
import Derived.ProofKit
namespace Go.Proofs.Ytkknnloamidaiaa.VI
set_option linter.unusedVariables false
set_option linter.unusedSimpArgs false
set_option linter.unusedSimpArgs false
set_option linter.unusedVariables false
set_option maxRecDepth 100000
set_option maxHeartbeats 8000000
set_option exponentiation.threshold 2000
theorem code_of {k : Int} {e : Nat} (h0 : 0 < k) (h1 : k < 16777216) (he : 23 ≤ e ∧ e ≤ 200) : ∃ c, 0 ≤ c ∧ c < 2139095040 ∧ mv c = k * 2 ^ e := by
  obtain ⟨c1, c2, c3, c4, c5, c6⟩ := cs2
  have hl : lg k < 24 := lg_bd h0 (by have : (2 : Int) ^ 24 = 16777216 := rfl; omega)
  have a := lg_le h0
  have b := lg_lt h0
  have p := p2_pos (23 - lg k)
  have l1 := Int.mul_le_mul_of_nonneg_right a (Int.le_of_lt p)
  rw [← p2_add, show lg k + (23 - lg k) = 23 by omega] at l1
  have l2 := Int.mul_lt_mul_of_pos_right b p
  rw [← p2_add, show lg k + 1 + (23 - lg k) = 24 by omega] at l2
  have c23 : (2 : Int) ^ 23 = 8388608 := rfl
  have c24 : (2 : Int) ^ 24 = 16777216 := rfl
  have hm : mv (((e : Int) + lg k - 22) * 8388608 + (k * 2 ^ (23 - lg k) - 8388608)) = k * 2 ^ e := by
    have e0 : (k * 2 ^ e) = k * 2 ^ (23 - lg k) * 2 ^ (e + lg k - 23) := by rw [Int.mul_assoc, ← p2_add]; congr 2; omega
    rw [e0]
    generalize k * 2 ^ (23 - lg k) = S at *
    unfold mv xp sig ex ff
    rw [c1, c2, c3, c6]
    have e1 : (((e : Int) + lg k - 22) * 8388608 + (S - 8388608)) / 8388608 % 256 = (e : Int) + lg k - 22 := by omega
    have e2 : (((e : Int) + lg k - 22) * 8388608 + (S - 8388608)) % 8388608 = S - 8388608 := by omega
    rw [e1, e2, if_neg (by omega), if_neg (by omega)]
    rw [show S - 8388608 + 8388608 = S by omega]
    congr 2; omega
  exact ⟨_, by omega, by omega, hm⟩
theorem code_fnt {c : Int} (h0 : 0 ≤ c) (h1 : c < 2139095040) : fnt c ∧ vz c = mv c := ⟨⟨⟨h0, by omega⟩, by omega⟩, vz_pos ⟨h0, by omega⟩ (by omega)⟩
theorem mv_zero : mv 0 = 0 := by decide
theorem mv_lt {a b : Int} (h0 : 0 ≤ a) (h : a < b) (h1 : b < 2139095040) : mv a < mv b := by
  obtain ⟨a1, a2, a3, a4, a5, a6⟩ := code_parts h0 (by omega : a < 2139095040)
  obtain ⟨b1, b2, b3, b4, b5, b6⟩ := code_parts (by omega : 0 ≤ b) h1
  unfold mv
  generalize sig 2 a = S at *
  generalize sig 2 b = R at *
  generalize xp 2 a = x at *
  generalize xp 2 b = y at *
  have px := p2_pos (x + 149).toNat
  by_cases k : x = y
  · subst k
    exact Int.mul_lt_mul_of_pos_right (by omega) px
  · obtain ⟨d, hd⟩ : ∃ d : Nat, (y + 149).toNat = (d + 1) + (x + 149).toNat := ⟨(y - x - 1).toNat, by omega⟩
    rw [hd, p2_add, ← Int.mul_assoc]
    apply Int.mul_lt_mul_of_pos_right _ px
    rw [p2_succ]
    have := Int.mul_le_mul_of_nonneg_left (show (1 : Int) ≤ 2 ^ d by have := p2_pos d; omega) (show 0 ≤ 2 * R by omega)
    rw [show R * (2 * 2 ^ d) = 2 * R * 2 ^ d by simp only [Int.mul_assoc, Int.mul_left_comm, Int.mul_comm]]
    omega
theorem mv_code_le {a b : Int} (h0 : 0 ≤ a) (h1 : b < 2139095040) (hb : 0 ≤ b) (h2 : a < 2139095040) (h : mv a ≤ mv b) : a ≤ b := by
  apply Int.le_of_not_gt; intro k
  have := mv_lt hb k h2; omega
theorem int_exact {n : Int} (h : -16777216 < n ∧ n < 16777216) : fnt (intf n) ∧ vz (intf n) = n * 2 ^ 149 := by
  have P : (0 : Int) < 2 ^ 149 := p2_pos 149
  have hx : ∃ c, fnt c ∧ vz c = n * 2 ^ 149 := by
    by_cases h0 : n = 0
    · subst h0; exact ⟨0, (code_fnt (by decide) (by decide)).1, by decide⟩
    by_cases h1 : 0 < n
    · obtain ⟨c, a, b, e⟩ := code_of (k := n) (e := 149) h1 h.2 (by decide)
      exact ⟨c, (code_fnt a b).1, by rw [(code_fnt a b).2, e]⟩
    · obtain ⟨c, a, b, e⟩ := code_of (k := -n) (e := 149) (by omega) (by omega) (by decide)
      have t := turn_fin (code_fnt a b).1
      refine ⟨_, t.1, ?_⟩
      rw [t.2, (code_fnt a b).2, e, Int.neg_mul, Int.neg_neg]
  obtain ⟨c, fc, vc⟩ := hx
  have e : sv (decide (n < 0)) ((if n < 0 then -n else n) * 2 ^ ((0 : Int) + 298).toNat) = n * 2 ^ 298 := by
    unfold sv
    by_cases c : n < 0
    · rw [if_pos (decide_eq_true c), if_pos c, Int.neg_mul, Int.neg_neg]; rfl
    · rw [if_neg (by simp [c]), if_neg c]; rfl
  have e2 : n * 2 ^ 149 * 2 ^ 149 = n * 2 ^ 298 := by rw [Int.mul_assoc, ← p2_add]
  have := pk_in (decide (n < 0)) (N := if n < 0 then -n else n) (e := 0) (by split <;> omega) (by decide) fc fc
    (by rw [e, vc, e2]; exact Int.le_refl _) (by rw [e, vc, e2]; exact Int.le_refl _)
  rw [vc] at this
  exact ⟨this.1, Int.le_antisymm this.2.2 this.2.1⟩
theorem tot_mag {T : Int} (h : 0 ≤ T) : ∃ M, 0 ≤ M ∧ M ≤ 2139095040 ∧ (totS 2 0 T).1 = M
    ∧ (∀ c, 0 ≤ c → c < 2139095040 → T ≤ mv c * 2 ^ 149 → M ≤ c)
    ∧ (∀ c, 0 ≤ c → c < 2139095040 → mv c * 2 ^ 149 ≤ T → c ≤ M) := by
  have P : (0 : Int) < 2 ^ 149 := p2_pos 149
  unfold totS
  by_cases h0 : T = 0
  · rw [if_pos h0]
    refine ⟨0, by decide, by decide, rfl, fun c a b _ => a, fun c a b k => ?_⟩
    have : mv c ≤ 0 := by
      apply Int.le_of_mul_le_mul_right _ P; rw [Int.zero_mul, ← h0]; exact k
    apply mv_code_le a (by decide) (by decide) b; rw [mv_zero]; exact this
  · rw [if_neg h0, if_neg (show ¬ T < 0 by omega), show decide (T < 0) = false by simp; omega]
    obtain ⟨M, m0, m1, hM, hu, hl⟩ := rnd_mag false (e := -298) (N := T) (by omega) (by decide)
    have e : T * 2 ^ ((-298 : Int) + 298).toNat = T := by show T * 1 = T; omega
    rw [e] at hu hl
    exact ⟨M, m0, m1, by rw [hM]; show 0 + M = M; omega, hu, hl⟩
theorem add_mag {a b : Int} (a0 : 0 ≤ a) (a1 : a < 2139095040) (b0 : 0 ≤ b) (b1 : b < 2139095040) (hz : 0 < mv a + mv b) :
    ∃ M, 0 ≤ M ∧ M ≤ 2139095040 ∧ addf a b = M
    ∧ (∀ c, 0 ≤ c → c < 2139095040 → mv a + mv b ≤ mv c → M ≤ c)
    ∧ (∀ c, 0 ≤ c → c < 2139095040 → mv c ≤ mv a + mv b → c ≤ M) := by
  have P : (0 : Int) < 2 ^ 149 := p2_pos 149
  obtain ⟨fa, va⟩ := code_fnt a0 a1
  obtain ⟨fb, vb⟩ := code_fnt b0 b1
  have sa : sg 2 a = false := by rw [sgd fa.1]; simp; omega
  have sb : sg 2 b = false := by rw [sgd fb.1]; simp; omega
  have ea : sv (sg 2 a) (sig 2 a * 2 ^ (xp 2 a + 298).toNat) = mv a * 2 ^ 149 := by rw [svl_up, va]
  have eb : sv (sg 2 b) (sig 2 b * 2 ^ (xp 2 b + 298).toNat) = mv b * 2 ^ 149 := by rw [svl_up, vb]
  have h : addf a b = (totS 2 0 ((mv a + mv b) * 2 ^ 149)).1 := by
    unfold addf addS
    rw [fin_nan fa, fin_nan fb, fin_inf fa, fin_inf fb]
    simp only [Bool.or_false, Bool.and_false, Bool.false_and, Bool.false_eq_true, if_false]
    unfold sumS
    rw [ea, eb, ← Int.add_mul]
    rw [if_neg (by rintro ⟨k, _⟩; have := Int.mul_pos hz P; omega)]
  obtain ⟨M, m0, m1, hM, hu, hl⟩ := tot_mag (T := (mv a + mv b) * 2 ^ 149) (Int.mul_nonneg (by omega) (by omega))
  exact ⟨M, m0, m1, by rw [h, hM], fun c c0 c1 k => hu c c0 c1 (Int.mul_le_mul_of_nonneg_right k (by omega)), fun c c0 c1 k => hl c c0 c1 (Int.mul_le_mul_of_nonneg_right k (by omega))⟩
theorem sub_mag {a b : Int} (a0 : 0 ≤ a) (a1 : a < 2139095040) (b0 : 0 ≤ b) (b1 : b < 2139095040) (hz : mv b ≤ mv a) :
    ∃ M, 0 ≤ M ∧ M ≤ 2139095040 ∧ subf a b = M
    ∧ (∀ c, 0 ≤ c → c < 2139095040 → mv a - mv b ≤ mv c → M ≤ c)
    ∧ (∀ c, 0 ≤ c → c < 2139095040 → mv c ≤ mv a - mv b → c ≤ M) := by
  have P : (0 : Int) < 2 ^ 149 := p2_pos 149
  obtain ⟨fa, va⟩ := code_fnt a0 a1
  obtain ⟨fb, vb⟩ := code_fnt b0 b1
  obtain ⟨ft, vt⟩ := turn_fin fb
  have sa : sg 2 a = false := by rw [sgd fa.1]; simp; omega
  have st : sg 2 (turnS 2 b) = true := by rw [sgd ft.1, turn2 fb.1, if_neg (by omega)]; simp; omega
  have ea : sv (sg 2 a) (sig 2 a * 2 ^ (xp 2 a + 298).toNat) = mv a * 2 ^ 149 := by rw [svl_up, va]
  have eb : sv (sg 2 (turnS 2 b)) (sig 2 (turnS 2 b) * 2 ^ (xp 2 (turnS 2 b) + 298).toNat) = -mv b * 2 ^ 149 := by rw [svl_up, vt, vb]
  have e : subf a b = addf a (turnS 2 b) := by
    unfold subf subS addf
    rw [fin_nan fa, fin_nan fb]
    rfl
  have h : subf a b = (totS 2 0 ((mv a - mv b) * 2 ^ 149)).1 := by
    rw [e]
    unfold addf addS
    rw [fin_nan fa, fin_nan ft, fin_inf fa, fin_inf ft]
    simp only [Bool.or_false, Bool.and_false, Bool.false_and, Bool.false_eq_true, if_false]
    unfold sumS
    rw [ea, eb, ← Int.add_mul, sa, st, ← Int.sub_eq_add_neg]
    rw [if_neg (by rintro ⟨_, k⟩; cases k)]
  obtain ⟨M, m0, m1, hM, hu, hl⟩ := tot_mag (T := (mv a - mv b) * 2 ^ 149) (Int.mul_nonneg (by omega) (by omega))
  exact ⟨M, m0, m1, by rw [h, hM], fun c c0 c1 k => hu c c0 c1 (Int.mul_le_mul_of_nonneg_right k (by omega)), fun c c0 c1 k => hl c c0 c1 (Int.mul_le_mul_of_nonneg_right k (by omega))⟩
end Go.Proofs.Ytkknnloamidaiaa.VI

namespace Go.Proofs.Ytkknnloamidaiaa.VI
set_option linter.unusedVariables false
set_option linter.unusedSimpArgs false
set_option linter.unusedSimpArgs false
set_option linter.unusedVariables false
set_option maxRecDepth 100000
set_option maxHeartbeats 8000000
set_option exponentiation.threshold 2000
theorem fnt_lit {s : Int} (h : (decide (0 ≤ s) && (decide (s < 4294967296) && decide (s % 2147483648 < 2139095040))) = true) : fnt s := by
  simp only [Bool.and_eq_true, decide_eq_true_eq] at h
  exact ⟨⟨h.1, h.2.1⟩, h.2.2⟩
theorem st_in {p r c : Int} (A B lo hi : Int) (fp : fnt p) (fr : fnt r) (fc : fnt c) (fl : fnt lo) (fh : fnt hi)
    (hA : -A ≤ vz p ∧ vz p ≤ A) (hB : -B ≤ vz r ∧ vz r ≤ B) (h1 : vz lo * 2 ^ 149 + A * B ≤ vz c * 2 ^ 149) (h2 : vz c * 2 ^ 149 + A * B ≤ vz hi * 2 ^ 149) :
    fnt (fma p r c) ∧ vz lo ≤ vz (fma p r c) ∧ vz (fma p r c) ≤ vz hi := by
  have k := abs_mul hA hB
  exact fma_in fp fr fc fl fh (by omega) (by omega)
theorem expR_un (x : Int) : expR x = fma (turnS 2 (intf (wholef (mulf x 1069066811)))) 901758606 (fma (turnS 2 (intf (wholef (mulf x 1069066811)))) 1060205056 x) := rfl
theorem vz_L : vz 1069066811 = 12102203 * 2 ^ 126 ∧ vz 1060205056 = 11629056 * 2 ^ 125 ∧ vz 901758606 = 12566158 * 2 ^ 106 := by decide +kernel
theorem code8 {k : Int} (h : -10000 ≤ k ∧ k ≤ 10000) : ∃ c, fnt c ∧ vz c = k * 2 ^ 146 := by
  by_cases h0 : k = 0
  · subst h0; exact ⟨0, (code_fnt (by decide) (by decide)).1, by decide⟩
  by_cases h1 : 0 < k
  · obtain ⟨c, a, b, e⟩ := code_of (k := k) (e := 146) h1 (by omega) (by decide)
    exact ⟨c, (code_fnt a b).1, by rw [(code_fnt a b).2, e]⟩
  · obtain ⟨c, a, b, e⟩ := code_of (k := -k) (e := 146) (by omega) (by omega) (by decide)
    have t := turn_fin (code_fnt a b).1
    refine ⟨_, t.1, ?_⟩
    rw [t.2, (code_fnt a b).2, e, Int.neg_mul, Int.neg_neg]
theorem expN {x : Int} (h : ab 7 x) : ∃ n : Int, wholef (mulf x 1069066811) = n ∧ -186 ≤ n ∧ n ≤ 186
    ∧ -(5 * 2 ^ 298) ≤ 8 * (vz x * vz 1069066811 - n * 2 ^ 298) ∧ 8 * (vz x * vz 1069066811 - n * 2 ^ 298) ≤ 5 * 2 ^ 298
    ∧ (vz x ≤ 0 → n ≤ 0) ∧ (0 ≤ vz x → 0 ≤ n) := by
  have fL : fnt 1069066811 := fnt_lit (by decide)
  have hm : ab 8 (mulf x 1069066811) := ab_mul (i := 7) (j := 1) (by decide) (by decide) h (ab_lit (by decide +kernel))
  have near := wholef_near (ab_mono (show 8 ≤ 30 by decide) hm)
  have wb := wholef_ab (by decide) hm
  obtain ⟨f1, v1, f2, v2⟩ := pw_fin (show 8 ≤ 127 by decide)
  have kb := ab_prod (i := 7) (j := 1) (m := 8) (by decide) h (ab_lit (k := 1) (s := 1069066811) (by decide +kernel))
  generalize hn : wholef (mulf x 1069066811) = n at *
  have c9 : (2 : Int) ^ (8 + 1) = 512 := rfl
  rw [c9] at wb
  have c149 : (2 : Int) ^ 149 = 8 * 2 ^ 146 := rfl
  have p146 : (0 : Int) < 2 ^ 146 := p2_pos 146
  have c298 : (2 : Int) ^ 298 = 8 * 2 ^ 146 * (2 ^ 149) := by decide +kernel
  have up : 8 * (vz x * vz 1069066811 - n * 2 ^ 298) ≤ 5 * 2 ^ 298 := by
    apply Int.le_of_not_gt; intro k
    obtain ⟨c, fc, vc⟩ := code8 (k := 8 * n + 5) (by omega)
    have := mulf_in h.1 fL fc f1 (by
      rw [vc]
      have e : (8 * n + 5) * 2 ^ 146 * 2 ^ 149 = (8 * n + 5) * (2 ^ 146 * 2 ^ 149) := by rw [Int.mul_assoc]
      rw [e]
      have e2 : (2 : Int) ^ 298 = 8 * (2 ^ 146 * 2 ^ 149) := by decide +kernel
      generalize (2 : Int) ^ 146 * 2 ^ 149 = Q at *
      rw [e2] at k
      generalize vz x * vz 1069066811 = W at *
      rw [Int.add_mul, Int.mul_assoc]
      have : n * (8 * Q) = 8 * (n * Q) := by rw [Int.mul_left_comm]
      omega) (by rw [v1]; exact kb.2)
    have k2 := this.2.1
    rw [vc] at k2
    rw [c149] at near
    generalize (2 : Int) ^ 146 = Q at *
    have e3 : n * (8 * Q) = 8 * (n * Q) := by rw [Int.mul_left_comm]
    rw [Int.add_mul, Int.mul_assoc] at k2
    omega
  have dn : -(5 * 2 ^ 298) ≤ 8 * (vz x * vz 1069066811 - n * 2 ^ 298) := by
    apply Int.le_of_not_gt; intro k
    obtain ⟨c, fc, vc⟩ := code8 (k := 8 * n - 5) (by omega)
    have := mulf_in h.1 fL f2 fc (by rw [v2, Int.neg_mul]; exact kb.1) (by
      rw [vc]
      have e : (8 * n - 5) * 2 ^ 146 * 2 ^ 149 = (8 * n - 5) * (2 ^ 146 * 2 ^ 149) := by rw [Int.mul_assoc]
      rw [e]
      have e2 : (2 : Int) ^ 298 = 8 * (2 ^ 146 * 2 ^ 149) := by decide +kernel
      generalize (2 : Int) ^ 146 * 2 ^ 149 = Q at *
      rw [e2] at k
      generalize vz x * vz 1069066811 = W at *
      rw [Int.sub_mul, Int.mul_assoc]
      have : n * (8 * Q) = 8 * (n * Q) := by rw [Int.mul_left_comm]
      omega)
    have k2 := this.2.2
    rw [vc] at k2
    rw [c149] at near
    generalize (2 : Int) ^ 146 = Q at *
    have e3 : n * (8 * Q) = 8 * (n * Q) := by rw [Int.mul_left_comm]
    rw [Int.sub_mul, Int.mul_assoc] at k2
    omega
  have hx1 := h.2.1
  have hx2 := h.2.2
  have f0 : fnt 0 := fnt_lit (by decide)
  have v0 : vz 0 = 0 := by decide
  refine ⟨n, rfl, ?_, ?_, dn, up, ?_, ?_⟩
  · rw [vz_L.1] at dn up
    have e1 : (2 : Int) ^ 7 * 2 ^ 149 = 2 ^ 156 := rfl
    rw [e1] at hx1 hx2
    omega
  · rw [vz_L.1] at dn up
    have e1 : (2 : Int) ^ 7 * 2 ^ 149 = 2 ^ 156 := rfl
    rw [e1] at hx1 hx2
    omega
  · intro hs
    have hL : (0 : Int) ≤ vz 1069066811 := by rw [vz_L.1]; decide +kernel
    have hp : vz x * vz 1069066811 ≤ 0 := by
      have := Int.mul_le_mul_of_nonneg_right hs hL; rwa [Int.zero_mul] at this
    have := mulf_in h.1 fL f2 f0 (by rw [v2, Int.neg_mul]; exact kb.1) (by rw [v0, Int.zero_mul]; exact hp)
    rw [v0] at this
    have k2 := this.2.2
    rw [c149] at near
    apply Int.le_of_not_gt; intro k
    have := Int.mul_le_mul_of_nonneg_right (show 1 ≤ n by omega) (show (0 : Int) ≤ 8 * 2 ^ 146 by omega)
    omega
  · intro hs
    have hL : (0 : Int) ≤ vz 1069066811 := by rw [vz_L.1]; decide +kernel
    have hp : 0 ≤ vz x * vz 1069066811 := Int.mul_nonneg hs hL
    have := mulf_in h.1 fL f0 f1 (by rw [v0, Int.zero_mul]; exact hp) (by rw [v1]; exact kb.2)
    rw [v0] at this
    have k2 := this.2.1
    rw [c149] at near
    apply Int.le_of_not_gt; intro k
    have := Int.mul_le_mul_of_nonneg_right (show n ≤ -1 by omega) (show (0 : Int) ≤ 8 * 2 ^ 146 by omega)
    omega
theorem expR_in {x n : Int} (h : ab 7 x) (hn : wholef (mulf x 1069066811) = n) (n1 : -186 ≤ n) (n2 : n ≤ 186)
    (d1 : -(5 * 2 ^ 298) ≤ 8 * (vz x * vz 1069066811 - n * 2 ^ 298)) (d2 : 8 * (vz x * vz 1069066811 - n * 2 ^ 298) ≤ 5 * 2 ^ 298) :
    fnt (expR x) ∧ -(15 * 2 ^ 144) ≤ vz (expR x) ∧ vz (expR x) ≤ 15 * 2 ^ 144 ∧ (n = 0 → vz (expR x) = vz x) := by
  obtain ⟨vL, vH, vl⟩ := vz_L
  have ⟨fi, vi⟩ := int_exact (n := n) (by omega)
  have ⟨fk, vk⟩ := turn_fin fi
  rw [vi] at vk
  have fH : fnt 1060205056 := fnt_lit (by decide)
  have fl : fnt 901758606 := fnt_lit (by decide)
  have fa1 : fnt 1054867456 := fnt_lit (by decide)
  have va1 : vz 1054867456 = 7 * 2 ^ 145 := by decide +kernel
  have ⟨fa2, va2⟩ := turn_fin fa1
  have fb1 : fnt 1055916032 := fnt_lit (by decide)
  have vb1 : vz 1055916032 = 15 * 2 ^ 144 := by decide +kernel
  have ⟨fb2, vb2⟩ := turn_fin fb1
  rw [vL] at d1 d2
  have hx1 := h.2.1
  have hx2 := h.2.2
  have c156 : (2 : Int) ^ 7 * 2 ^ 149 = 2 ^ 156 := rfl
  rw [c156] at hx1 hx2
  rw [expR_un, hn]
  have A := fma_in fk fH h.1 fa2 fa1 (by rw [va2, va1, vk, vH]; omega) (by rw [va1, vk, vH]; omega)
  have A0 : n = 0 → vz (fma (turnS 2 (intf n)) 1060205056 x) = vz x := by
    intro h0
    have := fma_in fk fH h.1 h.1 h.1 (by rw [vk, h0]; simp) (by rw [vk, h0]; simp)
    exact Int.le_antisymm this.2.2 this.2.1
  generalize fma (turnS 2 (intf n)) 1060205056 x = a at *
  obtain ⟨fA, A1, A2⟩ := A
  rw [va2, va1] at A1
  rw [va1] at A2
  have B := fma_in fk fl fA fb2 fb1 (by rw [vb2, vb1, vk, vl]; omega) (by rw [vb1, vk, vl]; omega)
  rw [vb2, vb1] at B
  refine ⟨B.1, B.2.1, B.2.2, fun h0 => ?_⟩
  rw [← A0 h0]
  have := fma_in fk fl fA fA fA (by rw [vk, h0]; simp) (by rw [vk, h0]; simp)
  exact Int.le_antisymm this.2.2 this.2.1
theorem exp_poly {r : Int} (fr : fnt r) (r1 : -(15 * 2 ^ 144) ≤ vz r) (r2 : vz r ≤ 15 * 2 ^ 144) :
    ∃ P, polyS r 985008993 [1007192201, 1026206379, 1042983595, 1056964608, 1065353216, 1065353216] = P ∧ fnt P ∧ 2 ^ 148 ≤ vz P ∧ vz P ≤ 2 ^ 150
      ∧ (0 ≤ vz r → 2 ^ 149 ≤ vz P) ∧ (vz r ≤ 0 → vz P ≤ 2 ^ 149) := by
  have e0 : polyS r 985008993 [1007192201, 1026206379, 1042983595, 1056964608, 1065353216, 1065353216] = fma (fma (fma (fma (fma (fma 985008993 r 1007192201) r 1026206379) r 1042983595) r 1056964608) r 1065353216) r 1065353216 := rfl
  have v0 : vz 0 = 0 := by decide
  have vA : vz 1015021568 = 2 ^ 143 := by decide +kernel
  have vB : vz 1031798784 = 2 ^ 145 := by decide +kernel
  have vC : vz 1048576000 = 2 ^ 147 := by decide +kernel
  have vD : vz 1052770304 = 3 * 2 ^ 146 := by decide +kernel
  have vE : vz 1059061760 = 5 * 2 ^ 146 := by decide +kernel
  have vH : vz 1056964608 = 2 ^ 148 := by decide +kernel
  have vO : vz 1065353216 = 2 ^ 149 := by decide +kernel
  have vT : vz 1073741824 = 2 ^ 150 := by decide +kernel
  have vF : vz 1069547520 = 3 * 2 ^ 148 := by decide +kernel
  have q1 := st_in (p := 985008993) (r := r) (c := 1007192201) (2 ^ 140) (15 * 2 ^ 144) 0 1015021568 (fnt_lit (by decide)) fr (fnt_lit (by decide)) (fnt_lit (by decide)) (fnt_lit (by decide)) (by decide +kernel) ⟨r1, r2⟩ (by decide +kernel) (by decide +kernel)
  rw [v0, vA] at q1
  generalize fma 985008993 r 1007192201 = p1 at *
  have q2 := st_in (p := p1) (r := r) (c := 1026206379) (2 ^ 143) (15 * 2 ^ 144) 0 1031798784 q1.1 fr (fnt_lit (by decide)) (fnt_lit (by decide)) (fnt_lit (by decide)) ⟨by omega, by omega⟩ ⟨r1, r2⟩ (by decide +kernel) (by decide +kernel)
  rw [v0, vB] at q2
  generalize fma p1 r 1026206379 = p2 at *
  have q3 := st_in (p := p2) (r := r) (c := 1042983595) (2 ^ 145) (15 * 2 ^ 144) 0 1048576000 q2.1 fr (fnt_lit (by decide)) (fnt_lit (by decide)) (fnt_lit (by decide)) ⟨by omega, by omega⟩ ⟨r1, r2⟩ (by decide +kernel) (by decide +kernel)
  rw [v0, vC] at q3
  generalize fma p2 r 1042983595 = p3 at *
  have q4 := st_in (p := p3) (r := r) (c := 1056964608) (2 ^ 147) (15 * 2 ^ 144) 1052770304 1059061760 q3.1 fr (fnt_lit (by decide)) (fnt_lit (by decide)) (fnt_lit (by decide)) ⟨by omega, by omega⟩ ⟨r1, r2⟩ (by decide +kernel) (by decide +kernel)
  rw [vD, vE] at q4
  generalize fma p3 r 1056964608 = p4 at *
  have k4 := abs_mul (show -(5 * 2 ^ 146) ≤ vz p4 ∧ vz p4 ≤ 5 * 2 ^ 146 by omega) ⟨r1, r2⟩
  have fO : fnt 1065353216 := fnt_lit (by decide)
  have fH : fnt 1056964608 := fnt_lit (by decide)
  have fF : fnt 1069547520 := fnt_lit (by decide)
  have fT : fnt 1073741824 := fnt_lit (by decide)
  rw [e0]
  by_cases hs : 0 ≤ vz r
  · have n4 : 0 ≤ vz p4 * vz r := Int.mul_nonneg (by omega) hs
    have q5 := fma_in q4.1 fr fO fO fF (by rw [vO]; omega) (by rw [vO, vF]; omega)
    rw [vO, vF] at q5
    generalize fma p4 r 1065353216 = p5 at *
    have k5 := abs_mul (show -(3 * 2 ^ 148) ≤ vz p5 ∧ vz p5 ≤ 3 * 2 ^ 148 by omega) ⟨r1, r2⟩
    have n5 : 0 ≤ vz p5 * vz r := Int.mul_nonneg (by omega) hs
    have q6 := fma_in q5.1 fr fO fO fT (by rw [vO]; omega) (by rw [vO, vT]; omega)
    rw [vO, vT] at q6
    refine ⟨_, rfl, q6.1, by omega, q6.2.2, fun _ => q6.2.1, fun h0 => ?_⟩
    have hr0 : vz r = 0 := by omega
    have := fma_in q5.1 fr fO fO fO (by rw [hr0]; simp) (by rw [hr0]; simp)
    rw [vO] at this; exact this.2.2
  · have n4 : vz p4 * vz r ≤ 0 := by
      have := Int.mul_le_mul_of_nonneg_left (show vz r ≤ 0 by omega) (show 0 ≤ vz p4 by omega); rwa [Int.mul_zero] at this
    have q5 := fma_in q4.1 fr fO fH fO (by rw [vO, vH]; omega) (by rw [vO]; omega)
    rw [vO, vH] at q5
    generalize fma p4 r 1065353216 = p5 at *
    have k5 := abs_mul (show -(2 ^ 149) ≤ vz p5 ∧ vz p5 ≤ 2 ^ 149 by omega) ⟨r1, r2⟩
    have n5 : vz p5 * vz r ≤ 0 := by
      have := Int.mul_le_mul_of_nonneg_left (show vz r ≤ 0 by omega) (show 0 ≤ vz p5 by omega); rwa [Int.mul_zero] at this
    have q6 := fma_in q5.1 fr fO fH fO (by rw [vO, vH]; omega) (by rw [vO]; omega)
    rw [vO, vH] at q6
    exact ⟨_, rfl, q6.1, q6.2.1, by omega, fun h0 => absurd h0 hs, fun _ => q6.2.2⟩
theorem expM_in {x : Int} (h : ab 7 x) : ∃ M, expM x = M ∧ 0 ≤ M ∧ M ≤ 2139095040 ∧ (0 ≤ vz x → 1065353216 ≤ M) ∧ (vz x ≤ 0 → M ≤ 1065353216) := by
  obtain ⟨n, hn, n1, n2, d1, d2, s1, s2⟩ := expN h
  obtain ⟨fr, r1, r2, r0⟩ := expR_in h hn n1 n2 d1 d2
  obtain ⟨P, hP, fP, P1, P2, P3, P4⟩ := exp_poly fr r1 r2
  have mO : mv 1065353216 = 2 ^ 149 := by decide +kernel
  have hpos : P < 2147483648 := by
    apply Int.lt_of_not_ge; intro k
    have := vz_neg fP.1 k
    have := mv_nn (P - 2147483648); omega
  have p0 := fP.1.1
  have p1 : P < 2139095040 := by have := fP.2; omega
  have vP := vz_pos fP.1 hpos
  have lo : 1056964608 ≤ P := mv_code_le (by decide) p1 p0 (by decide) (by rw [show mv 1056964608 = 2 ^ 148 by decide +kernel]; omega)
  have hi : P ≤ 1073741824 := mv_code_le p0 (by decide) (by decide) p1 (by rw [show mv 1073741824 = 2 ^ 150 by decide +kernel]; omega)
  obtain ⟨b1, b2, b3, b4, b5, b6⟩ := code_parts p0 p1
  have hxp : -24 ≤ xp 2 P ∧ xp 2 P ≤ -22 := by omega
  have hsg : sg 2 P = false := by rw [sgd fP.1]; simp; omega
  have hz : zr 2 P = false := by
    unfold zr; apply decide_eq_false; rw [show TT 2 = 2147483648 from rfl]; omega
  have e : expM x = (pk 2 0 false (xp 2 P + n) (sig 2 P) false).1 := by
    unfold expM scalef scaleS
    rw [hP, hn, fin_nan fP, fin_inf fP, hz, hsg, show min (max n (-5000)) 5000 = n by omega]
    rfl
  obtain ⟨M, M0, M1, hM, up, dn⟩ := rnd_mag false (e := xp 2 P + n) (N := sig 2 P) (by omega) (by omega)
  have hM' : expM x = M := by rw [e, hM]; show 0 + M = M; omega
  refine ⟨M, hM', M0, M1, fun hs => ?_, fun hs => ?_⟩
  · apply dn _ (by decide) (by decide)
    have n0 := s2 hs
    obtain ⟨d, rfl⟩ : ∃ d : Nat, n = d := ⟨n.toNat, by omega⟩
    have e1 : (xp 2 P + (d : Int) + 298).toNat = (xp 2 P + 298).toNat + d := by omega
    rw [e1, p2_add, ← Int.mul_assoc, ← mv_up, mO]
    have p149 : (0 : Int) < 2 ^ 149 := p2_pos 149
    by_cases k : d = 0
    · subst k
      have := P3 (by rw [r0 rfl]; exact hs)
      rw [vP] at this
      have := Int.mul_le_mul_of_nonneg_right this (Int.le_of_lt p149)
      rw [show (2 : Int) ^ 0 = 1 from rfl, Int.mul_one]; exact this
    · obtain ⟨g, rfl⟩ : ∃ g, d = g + 1 := ⟨d - 1, by omega⟩
      rw [p2_succ g]
      have pg := p2_pos g
      rw [vP] at P1
      have t1 := Int.mul_le_mul_of_nonneg_right P1 (Int.le_of_lt p149)
      have t2 := Int.mul_le_mul_of_nonneg_left (show (2 : Int) ≤ 2 * 2 ^ g by omega) (show 0 ≤ mv P * 2 ^ 149 from Int.mul_nonneg (mv_nn P) (Int.le_of_lt p149))
      have c : (2 : Int) ^ 148 * 2 ^ 149 * 2 = 2 ^ 149 * 2 ^ 149 := by decide +kernel
      omega
  · apply up _ (by decide) (by decide)
    have n0 := s1 hs
    obtain ⟨d, hd⟩ : ∃ d : Nat, n = -(d : Int) := ⟨(-n).toNat, by omega⟩
    have e1 : (xp 2 P + 298).toNat = (xp 2 P + n + 298).toNat + d := by omega
    have mu := mv_up P
    rw [e1, p2_add, ← Int.mul_assoc] at mu
    rw [mO]
    have p149 : (0 : Int) < 2 ^ 149 := p2_pos 149
    have pd := p2_pos d
    apply Int.le_of_mul_le_mul_right _ pd
    rw [← mu]
    by_cases k : d = 0
    · subst k
      have := P4 (by rw [r0 (by omega)]; exact hs)
      rw [vP] at this
      have := Int.mul_le_mul_of_nonneg_right this (Int.le_of_lt p149)
      rw [show (2 : Int) ^ 0 = 1 from rfl, Int.mul_one]; exact this
    · obtain ⟨g, rfl⟩ : ∃ g, d = g + 1 := ⟨d - 1, by omega⟩
      rw [p2_succ g]
      have pg := p2_pos g
      rw [vP] at P2
      have t1 := Int.mul_le_mul_of_nonneg_right P2 (Int.le_of_lt p149)
      have t2 := Int.mul_le_mul_of_nonneg_left (show (2 : Int) ≤ 2 * 2 ^ g by omega) (show (0 : Int) ≤ 2 ^ 149 * 2 ^ 149 from Int.mul_nonneg (Int.le_of_lt p149) (Int.le_of_lt p149))
      have c : (2 : Int) ^ 149 * 2 ^ 149 * 2 = 2 ^ 150 * 2 ^ 149 := by decide +kernel
      omega
end Go.Proofs.Ytkknnloamidaiaa.VI

namespace Go.Proofs.Ytkknnloamidaiaa.VI
set_option linter.unusedVariables false
set_option linter.unusedSimpArgs false
set_option linter.unusedSimpArgs false
set_option linter.unusedVariables false
set_option maxRecDepth 100000
set_option maxHeartbeats 8000000
theorem nan2 {x : Int} : nan 2 x = true ↔ 2139095040 < x % 2147483648 := by
  unfold nan; rw [decide_eq_true_iff]; rfl
theorem zr2 {x : Int} : zr 2 x = true ↔ x % 2147483648 = 0 := by
  unfold zr; rw [decide_eq_true_iff]; rfl
theorem sgg2 {x : Int} : sg 2 x = true ↔ x / 2147483648 % 2 = 1 := by
  unfold sg; rw [decide_eq_true_iff]; rfl
theorem mulf_nan {a b : Int} (h : (nan 2 a || nan 2 b) = true) : mulf a b = 2143289344 := by
  unfold mulf mulS; rw [if_pos h]; rfl
theorem addf_nan {a b : Int} (h : (nan 2 a || nan 2 b) = true) : addf a b = 2143289344 := by
  unfold addf addS; rw [if_pos h]; rfl
theorem fma_nan {a b c : Int} (h : (nan 2 a || nan 2 b || nan 2 c) = true) : fma a b c = 2143289344 := by
  unfold fma fmaS; rw [if_pos (by rw [Bool.or_eq_true]; left; rw [← Bool.or_assoc]; exact h)]; rfl
theorem nan_turn {x : Int} (h : w32 x) : nan 2 (turnS 2 x) = nan 2 x := by
  have h1 := h.1
  have h2 := h.2
  rw [turn2 h, Bool.eq_iff_iff, nan2, nan2]
  split <;> omega
theorem orT {x : Int} (h : 0 ≤ x ∧ x < 2147483648) (b : Bool) : bits .or .u32 x (bif b then 2147483648 else 0) = if b = true then x + 2147483648 else x := by
  cases b
  · exact or_zero32 x h.1 (by omega)
  · rw [show (bif true then (2147483648 : Int) else 0) = 2147483648 from rfl, or_comm32, or_join32 2147483648 x 31 (by decide) (by decide) h.1 (by have : (2 : Int) ^ 31 = 2147483648 := rfl; omega) (by decide) (by decide)]
    simp; omega
theorem lt_pos {a b : Int} (ha : 0 ≤ a) (hb : b ≤ 2139095040) (h : a < b) : lt 2 a b = true := by
  rw [lt_iff]
  refine ⟨?_, ?_, ?_, ?_⟩
  · rw [Bool.eq_false_iff, ne_eq, nan2]; omega
  · rw [Bool.eq_false_iff, ne_eq, nan2]; omega
  · rw [zr2, zr2]; omega
  · have e1 : sg 2 a = false := by rw [Bool.eq_false_iff, ne_eq, sgg2]; omega
    have e2 : sg 2 b = false := by rw [Bool.eq_false_iff, ne_eq, sgg2]; omega
    unfold ky
    rw [e1, e2]
    show a % 2147483648 < b % 2147483648
    omega
theorem funcsEdges {a : Int} (h : w32 a) (b : Bool) : F_anneallaw12_FuncsEdges a b = some true := by
  have h1 := h.1
  have h2 := h.2
  have t1 : Int.tmod a 8388606 = a % 8388606 := tmod_nn h1
  have t2 : Int.tmod a 50331648 = a % 50331648 := tmod_nn h1
  have t3 : Int.tmod a 16777216 = a % 16777216 := tmod_nn h1
  have t4 : Int.tmod a 2139095040 = a % 2139095040 := tmod_nn h1
  unfold F_anneallaw12_FuncsEdges
  rw [t1, t2, t3, t4, known12_eq]
  simp only [Option.bind_some]
  rw [wu32 (n := 2139095041 + a % 8388606) (by omega), wu32 (n := 1118925337 + a % 50331648) (by omega), wu32 (n := 3268407734 + a % 16777216) (by omega), wu32 (n := a % 2139095040 + 1) (by omega)]
  rw [orT (by omega) b, orT (x := 1065353216) (by omega) b, orT (x := 2139095040) (by omega) b, orT (x := 1118925337 + a % 50331648) (by omega) b]
  -- a NaN
  have nn : ∀ x : Int, nan 2 x = true → w32 x → F_funcs_Exp x = some 2143289344 ∧ F_funcs_Log x = some 2143289344 ∧ F_funcs_Tanh x = some 2143289344 ∧ F_funcs_Sigmoid x = some 2143289344 ∧ F_funcs_Gelu x = some 2143289344 ∧ F_funcs_Slope x = some 2143289344 ∧ F_funcs_Cospi x = some 2143289344 := by
    intro x hx wx
    have ex : ∀ y, nan 2 y = true → expS y = 2143289344 := fun y hy => by unfold expS; rw [if_pos hy]
    have ins : innS x = 2143289344 := by
      unfold innS
      rw [fma_nan (by simp [hx])]
      decide +kernel
    refine ⟨?_, ?_, ?_, ?_, ?_, ?_, ?_⟩
    · rw [exp_eq wx, ex x hx]
    · rw [log_eq wx]; unfold logS; rw [if_pos hx]
    · rw [tanh_eq wx]; unfold tanS; rw [if_pos hx]
    · rw [sigm_eq wx]; unfold sigS; rw [ex _ (by rw [nan_turn wx]; exact hx)]; decide +kernel
    · rw [gelu_eq wx]; unfold gelS; rw [mulf_nan (a := 1056964608) (b := x) (by simp [hx]), ins]; decide +kernel
    · rw [slope_eq wx]; unfold sloS sloT; rw [mulf_nan (a := 1056964608) (b := x) (by simp [hx]), mulf_nan (a := x) (b := x) (by simp [hx]), ins]; decide +kernel
    · rw [cospi_eq wx]; unfold cosS; rw [if_pos hx]
  have w1 : w32 (if b = true then 2139095041 + a % 8388606 + 2147483648 else 2139095041 + a % 8388606) := by
    cases b <;> exact ⟨by simp; omega, by simp; omega⟩
  have n1 : nan 2 (if b = true then 2139095041 + a % 8388606 + 2147483648 else 2139095041 + a % 8388606) = true := by
    rw [nan2]; cases b <;> simp <;> omega
  obtain ⟨g1, g2, g3, g4, g5, g6, g7⟩ := nn _ n1 w1
  rw [g1, g2, g3, g4, g5, g6, g7]
  -- too great, too low
  have w2 : w32 (1118925337 + a % 50331648) := ⟨by omega, by omega⟩
  have e2 : F_funcs_Exp (1118925337 + a % 50331648) = some 2139095040 := by
    rw [exp_eq w2]
    unfold expS
    have n2 : nan 2 (1118925337 + a % 50331648) = false := by rw [Bool.eq_false_iff, ne_eq, nan2]; omega
    rw [if_neg (by rw [n2]; decide), if_pos (lt_pos (by decide) (by omega) (by omega))]
  have w3 : w32 (3268407734 + a % 16777216) := ⟨by omega, by omega⟩
  have n3 : nan 2 (3268407734 + a % 16777216) = false := by rw [Bool.eq_false_iff, ne_eq, nan2]; omega
  have s3 : sg 2 (3268407734 + a % 16777216) = true := by rw [sgg2]; omega
  have k3 : ky 2 (3268407734 + a % 16777216) = -1 - (3268407734 + a % 16777216) % 2147483648 := by unfold ky; rw [s3]; rfl
  have e3 : F_funcs_Exp (3268407734 + a % 16777216) = some 0 := by
    rw [exp_eq w3]
    unfold expS
    rw [if_neg (by rw [n3]; decide), if_neg, if_pos]
    · rw [lt_iff]
      refine ⟨n3, by decide, fun k => ?_, ?_⟩
      · rw [zr2] at k; omega
      · rw [k3, show ky 2 3268407733 = -1 - 1120924085 by decide]; omega
    · rw [lt_iff, k3, show ky 2 1118925336 = 1118925336 by decide]; omega
  rw [e2, e3]
  have l0 : ∀ c : Bool, F_funcs_Log (bif c then 2147483648 else 0) = some 4286578688 := fun c => by
    cases c
    · exact (log_eq (x := 0) (wlit rfl)).trans (congrArg some (by decide +kernel))
    · exact (log_eq (x := 2147483648) (wlit rfl)).trans (congrArg some (by decide +kernel))
  have l1 : F_funcs_Log (bits .or .u32 2147483648 (a % 2139095040 + 1)) = some 2143289344 := by
    rw [or_join32 2147483648 _ 31 (by decide) (by decide) (by omega) (by have : (2 : Int) ^ 31 = 2147483648 := rfl; omega) (by decide) (by decide), log_eq ⟨by omega, by omega⟩]
    unfold logS
    have q1 : nan 2 (2147483648 + (a % 2139095040 + 1)) = false := by rw [Bool.eq_false_iff, ne_eq, nan2]; omega
    have q2 : zr 2 (2147483648 + (a % 2139095040 + 1)) = false := by rw [Bool.eq_false_iff, ne_eq, zr2]; omega
    have q3 : sg 2 (2147483648 + (a % 2139095040 + 1)) = true := by rw [sgg2]; omega
    rw [q1, q2, q3]; rfl
  rw [l0, l1]
  have m0 : ∀ c : Bool, F_funcs_Tanh (bif c then 2147483648 else 0) = some (bif c then 2147483648 else 0) := fun c => by
    cases c
    · exact (tanh_eq (x := 0) (wlit rfl)).trans (congrArg some (by decide +kernel))
    · exact (tanh_eq (x := 2147483648) (wlit rfl)).trans (congrArg some (by decide +kernel))
  have m1 : ∀ y : Int, 1091579060 < y → y ≤ 2139095040 → F_funcs_Tanh (if b = true then y + 2147483648 else y) = some (if b = true then 1065353216 + 2147483648 else 1065353216) := by
    intro y y1 y2
    have tA : tanA y = 1065353216 := by unfold tanA; rw [if_pos (lt_pos (by decide) y2 y1)]
    cases b
    · show F_funcs_Tanh y = some 1065353216
      rw [tanh_eq ⟨by omega, by omega⟩]
      unfold tanS
      have q1 : nan 2 y = false := by rw [Bool.eq_false_iff, ne_eq, nan2]; omega
      have q2 : zr 2 y = false := by rw [Bool.eq_false_iff, ne_eq, zr2]; omega
      have q3 : sg 2 y = false := by rw [Bool.eq_false_iff, ne_eq, sgg2]; omega
      rw [q1, q2, q3, tA]; rfl
    · show F_funcs_Tanh (y + 2147483648) = some (1065353216 + 2147483648)
      have wy : w32 (y + 2147483648) := ⟨by omega, by omega⟩
      rw [tanh_eq wy]
      unfold tanS
      have q1 : nan 2 (y + 2147483648) = false := by rw [Bool.eq_false_iff, ne_eq, nan2]; omega
      have q2 : zr 2 (y + 2147483648) = false := by rw [Bool.eq_false_iff, ne_eq, zr2]; omega
      have q3 : sg 2 (y + 2147483648) = true := by rw [sgg2]; omega
      have tt : turnS 2 (y + 2147483648) = y := by rw [turn2 wy, if_pos (by omega)]; omega
      rw [q1, q2, q3, tt, tA]
      exact congrArg some (show turnS 2 1065353216 = 1065353216 + 2147483648 by decide)
  rw [m0, m1 2139095040 (by decide) (by decide), m1 _ (by omega) (by omega)]
  have s1 : F_funcs_Sigmoid 2139095040 = some 1065353216 := by rw [sigm_eq (wlit rfl)]; exact congrArg some (by decide +kernel)
  have s2 : F_funcs_Sigmoid 4286578688 = some 0 := by rw [sigm_eq (wlit rfl)]; exact congrArg some (by decide +kernel)
  rw [s1, s2]
  cases b <;> rfl
theorem callFuncsEdges : ∀ l, args [.i .u32, .b] l → oks l → CallOk PR i_anneallaw12_FuncsEdges l [] fun r _ => r = .b true :=
  rowT (fa := fa_anneallaw12_FuncsEdges) (F := G_anneallaw12_FuncsEdges) rfl rfl ok_anneallaw12_FuncsEdges (enters p_anneallaw12_FuncsEdges (by kernel_rfl) (by kernel_rfl)) rfl fun x hx =>
    funcsEdges ⟨hx.1.1, Int.lt_add_one_of_le hx.1.2⟩ x.2.1
end Go.Proofs.Ytkknnloamidaiaa.VI

namespace Go.Proofs.Ytkknnloamidaiaa.VI
set_option linter.unusedVariables false
set_option linter.unusedSimpArgs false
set_option linter.unusedSimpArgs false
set_option linter.unusedVariables false
set_option maxRecDepth 100000
set_option maxHeartbeats 8000000
set_option exponentiation.threshold 2000
theorem exp_sg {x : Int} (h : w32 x) (h0 : nan 2 x = false) : 0 ≤ expS x ∧ expS x ≤ 2139095040
    ∧ (fnt x → 0 ≤ vz x → 1065353216 ≤ expS x) ∧ (2147483648 ≤ x → expS x ≤ 1065353216) := by
  have x0 := h.1
  have x1 := h.2
  unfold expS
  rw [if_neg (by rw [h0]; decide)]
  by_cases k1 : lt 2 1118925336 x = true
  · rw [if_pos k1]
    refine ⟨by decide, by decide, fun _ _ => by decide, fun hx => ?_⟩
    rw [lt_iff] at k1
    have k := k1.2.2.2
    rw [show ky 2 1118925336 = 1118925336 by decide] at k
    unfold ky at k
    rw [show sg 2 x = true by rw [sgd h]; simp; omega, show TT 2 = 2147483648 from rfl] at k
    simp at k; omega
  rw [if_neg k1]
  by_cases k2 : lt 2 x 3268407733 = true
  · rw [if_pos k2]
    refine ⟨by decide, by decide, fun hf hx => ?_, fun _ => by decide⟩
    exfalso
    rw [lt_iff] at k2
    have k := k2.2.2.2
    rw [show ky 2 3268407733 = -1120924086 by decide] at k
    unfold ky at k
    rw [show TT 2 = 2147483648 from rfl] at k
    by_cases c : 2147483648 ≤ x
    · rw [show sg 2 x = true by rw [sgd h]; simp; omega] at k
      rw [vz_neg h c] at hx
      have := mv_lt (a := 0) (b := x - 2147483648) (by decide) (by simp at k; omega) (by have := hf.2; omega)
      rw [mv_zero] at this; omega
    · rw [show sg 2 x = false by rw [sgd h]; simp; omega] at k
      simp at k; omega
  rw [if_neg k2]
  have hab := exp_in h h0 (by rw [← Bool.not_eq_true]; exact k1) (by rw [← Bool.not_eq_true]; exact k2)
  obtain ⟨M, hM, M0, M1, s1, s2⟩ := expM_in hab
  rw [hM]
  refine ⟨M0, M1, fun _ hx => s1 hx, fun hx => s2 ?_⟩
  rw [vz_neg h hx]; have := mv_nn (x - 2147483648); omega
theorem mv_one : mv 1065353216 = 2 ^ 149 := by decide +kernel
theorem mv_two : mv 1073741824 = 2 ^ 150 := by decide +kernel
theorem one_more {E : Int} (h0 : 0 ≤ E) (h1 : E ≤ 2139095040) (sw : Bool) : ∃ D, (if sw then addf 1065353216 E else addf E 1065353216) = D ∧ 1065353216 ≤ D ∧ D ≤ 2139095040 ∧ (1065353216 ≤ E → 1073741824 ≤ D) := by
  by_cases k : E = 2139095040
  · subst k
    refine ⟨2139095040, by cases sw <;> decide, by decide, by decide, fun _ => by decide⟩
  have p149 : (0 : Int) < 2 ^ 149 := p2_pos 149
  have c : (2 : Int) ^ 150 = 2 * 2 ^ 149 := rfl
  have mE := mv_nn E
  cases sw
  · obtain ⟨M, m0, m1, hM, hu, hl⟩ := add_mag (a := E) (b := 1065353216) h0 (by omega) (by decide) (by decide) (by rw [mv_one]; omega)
    refine ⟨M, hM, hl _ (by decide) (by decide) (by rw [mv_one]; omega), m1, fun hE => hl _ (by decide) (by decide) ?_⟩
    have := mv_le (show (0 : Int) ≤ 1065353216 by decide) hE (by omega)
    rw [mv_one] at this
    rw [mv_two, mv_one]; omega
  · obtain ⟨M, m0, m1, hM, hu, hl⟩ := add_mag (a := 1065353216) (b := E) (by decide) (by decide) h0 (by omega) (by rw [mv_one]; omega)
    refine ⟨M, hM, hl _ (by decide) (by decide) (by rw [mv_one]; omega), m1, fun hE => hl _ (by decide) (by decide) ?_⟩
    have := mv_le (show (0 : Int) ≤ 1065353216 by decide) hE (by omega)
    rw [mv_one] at this
    rw [mv_two, mv_one]; omega
theorem by_more {a D : Int} (ha : a = 1065353216 ∨ a = 1073741824) (h0 : a ≤ D) (h1 : D ≤ 2139095040) : ∃ Q, divf a D = Q ∧ 0 ≤ Q ∧ Q ≤ 1065353216 := by
  by_cases k : D = 2139095040
  · subst k
    refine ⟨0, by rcases ha with rfl | rfl <;> decide, by decide, by decide⟩
  have ha0 : 0 ≤ a ∧ a < 2139095040 ∧ 1065353216 ≤ a := by omega
  have hD : 0 ≤ D ∧ D < 2139095040 := by omega
  obtain ⟨fa, va⟩ := code_fnt ha0.1 ha0.2.1
  obtain ⟨fD, vD⟩ := code_fnt hD.1 hD.2
  have za : zr 2 a = false := by unfold zr; apply decide_eq_false; rw [show TT 2 = 2147483648 from rfl]; omega
  have zD : zr 2 D = false := by unfold zr; apply decide_eq_false; rw [show TT 2 = 2147483648 from rfl]; omega
  have xa : -23 ≤ xp 2 a ∧ lg (sig 2 a) = 23 := by rcases ha with rfl | rfl <;> decide +kernel
  have xD := xp_bd 2 D
  obtain ⟨d1, d2, d3, d4, d5, d6⟩ := code_parts hD.1 hD.2
  obtain ⟨M, m0, m1, hM, hu, hl⟩ := div_mag fa fD za zD (by rw [xa.2]; omega)
  have sa : sg 2 a = false := by rw [sgd fa.1]; simp; omega
  have sD : sg 2 D = false := by rw [sgd fD.1]; simp; omega
  rw [sa, sD] at hM
  refine ⟨M, by rw [hM]; show 0 + M = M; omega, m0, hu _ (by decide) (by decide) ?_⟩
  have := mv_le ha0.1 h0 hD.2
  rw [mv_one, Int.mul_comm]
  exact Int.mul_le_mul_of_nonneg_left this (Int.le_of_lt (p2_pos 149))
theorem tanA_in {a : Int} (h0 : 0 ≤ a) (h1 : a ≤ 2139095040) : ∃ t, tanA a = t ∧ 0 ≤ t ∧ t ≤ 1065353216 := by
  unfold tanA
  by_cases k : lt 2 1091579060 a = true
  · rw [if_pos k]; exact ⟨_, rfl, by decide, by decide⟩
  rw [if_neg k]
  have hw : w32 a := ⟨h0, by omega⟩
  have hle : a ≤ 1091579060 := by
    apply Int.le_of_not_gt; intro c; exact k (lt_pos (by decide) h1 c)
  obtain ⟨fa, va⟩ := code_fnt h0 (show a < 2139095040 by omega)
  have m0 := mv_nn a
  have m1 := mv_le h0 hle (by decide)
  have f32 : fnt 1107296256 := fnt_lit (by decide)
  have f0 : fnt 0 := fnt_lit (by decide)
  have v0 : vz 0 = 0 := by decide
  have v32 : 2 * mv 1091579060 ≤ vz 1107296256 := by decide +kernel
  obtain ⟨g1, g2, g3⟩ := addf_in fa fa f0 f32 (by rw [v0, va]; omega) (by rw [va]; omega)
  rw [v0] at g2
  obtain ⟨e0, e1, e2, _⟩ := exp_sg g1.1 (fin_nan g1)
  have E1 := e2 g1 g2
  unfold tanT
  generalize expS (addf a a) = E at *
  obtain ⟨D, hD, D0, D1, D2⟩ := one_more e0 e1 false
  rw [show addf E 1065353216 = D from hD]
  obtain ⟨Q, hQ, Q0, Q1⟩ := by_more (Or.inr rfl) (D2 E1) D1
  rw [hQ]
  obtain ⟨M, q0, q1, hM, hu, hl⟩ := sub_mag (a := 1065353216) (b := Q) (by decide) (by decide) Q0 (by omega) (mv_le Q0 Q1 (by decide))
  exact ⟨M, hM, q0, hu _ (by decide) (by decide) (by have := mv_nn Q; omega)⟩
theorem tan_pos {x : Int} (h0 : 0 ≤ x) (h1 : x ≤ 2139095040) : ∃ t, tanS x = t ∧ 0 ≤ t ∧ t ≤ 1065353216 ∧ tanS (x + 2147483648) = t + 2147483648 := by
  have w1 : w32 x := ⟨h0, by omega⟩
  have w2 : w32 (x + 2147483648) := ⟨by omega, by omega⟩
  have n1 : nan 2 x = false := by rw [Bool.eq_false_iff, ne_eq, nan2]; omega
  have n2 : nan 2 (x + 2147483648) = false := by rw [Bool.eq_false_iff, ne_eq, nan2]; omega
  have s1 : sg 2 x = false := by rw [sgd w1]; simp; omega
  have s2 : sg 2 (x + 2147483648) = true := by rw [sgd w2]; simp; omega
  have zz : zr 2 (x + 2147483648) = zr 2 x := by unfold zr; rw [show TT 2 = 2147483648 from rfl, show (x + 2147483648) % 2147483648 = x % 2147483648 by omega]
  unfold tanS
  rw [n1, n2, zz, s1, s2]
  by_cases z : zr 2 x = true
  · rw [z]
    have : x = 0 := by rw [zr2] at z; omega
    subst this
    exact ⟨0, rfl, by decide, by decide, rfl⟩
  · rw [Bool.not_eq_true] at z
    rw [z]
    obtain ⟨t, ht, t0, t1⟩ := tanA_in h0 h1
    refine ⟨t, ht, t0, t1, ?_⟩
    have e : turnS 2 (x + 2147483648) = x := by rw [turn2 w2, if_pos (by omega)]; omega
    show turnS 2 (tanA (turnS 2 (x + 2147483648))) = t + 2147483648
    rw [e, ht, turn2 ⟨t0, by omega⟩, if_neg (by omega)]
theorem sig_in {x : Int} (h : w32 x) (h0 : nan 2 x = false) : ∃ g, sigS x = g ∧ 0 ≤ g ∧ g ≤ 1065353216 := by
  unfold sigS
  obtain ⟨t1, t2, t3⟩ := turn_nan h
  obtain ⟨e0, e1, _, _⟩ := exp_sg (turn2_w h) (by rw [t1]; exact h0)
  obtain ⟨D, hD, D0, D1, D2⟩ := one_more e0 e1 true
  rw [show addf 1065353216 (expS (turnS 2 x)) = D from hD]
  exact by_more (Or.inl rfl) D0 D1
theorem funcsSigns {a : Int} (h : w32 a) : F_anneallaw12_FuncsSigns a = some true := by
  have a0 := h.1
  have a1 := h.2
  have ex : bits .andNot .u32 a 2147483648 = a % 2147483648 := by
    obtain ⟨y, rfl⟩ : ∃ y : Nat, a = y := ⟨a.toNat, by omega⟩
    have := nat_andNot y 31 (by decide) (by omega)
    have e : bits .andNot .u32 (y : Int) 2147483648 = ((y &&& (4294967295 - 2 ^ 31) : Nat) : Int) := by
      have e2 : bits .andNot .u32 (y : Int) 2147483648 = bits .and .u32 (y : Int) (4294967295 - 2147483648) := by rfl
      rw [e2, show (4294967295 - 2147483648 : Int) = ((4294967295 - 2 ^ 31 : Nat) : Int) by decide]
      exact bits_and rfl (by show y < 4294967296; omega) (by decide)
    rw [e, this]; omega
  unfold F_anneallaw12_FuncsSigns
  dsimp only
  rw [ex, known12_eq]
  simp only [Option.bind_some, Bool.not_true, cond_false, bif_dec]
  generalize hx : a % 2147483648 = x
  have x0 : 0 ≤ x := by omega
  by_cases hb : x > 2139095040
  · rw [if_pos hb]
  rw [if_neg hb]
  have x1 : x ≤ 2139095040 := by omega
  have eo : ∀ y : Int, 0 ≤ y → y ≤ 2139095040 → bits .or .u32 y 2147483648 = y + 2147483648 := by
    intro y y0 y1
    rw [or_comm32, or_join32 2147483648 y 31 (by decide) (by decide) y0 (by have : (2 : Int) ^ 31 = 2147483648 := rfl; omega) (by decide) (by decide)]; omega
  obtain ⟨t, ht, t0, t1, tn⟩ := tan_pos x0 x1
  have w1 : w32 x := ⟨x0, by omega⟩
  have w2 : w32 (x + 2147483648) := ⟨by omega, by omega⟩
  have n2 : nan 2 (x + 2147483648) = false := by rw [Bool.eq_false_iff, ne_eq, nan2]; omega
  have na : nan 2 a = false := by rw [Bool.eq_false_iff, ne_eq, nan2]; omega
  obtain ⟨e0, e1, _, e3⟩ := exp_sg w2 n2
  have e4 := e3 (by omega)
  obtain ⟨g, hg, g0, g1⟩ := sig_in h na
  rw [eo x x0 x1, tanh_eq w1, tanh_eq w2, exp_eq w2, a32 a a0 a1, sigm_eq h, hg, ht, tn]
  simp only [Option.bind_some]
  rw [eo t t0 (by omega), beq_self_eq_true]
  simp only [cond_true]
  rw [if_pos (by omega), if_pos (by omega), if_pos (by omega), classr_eq 2 t0 (by omega)]
  simp only [Option.bind_some]
  congr 1
  apply decide_eq_true
  have k1 := kl_nan 2 t
  have k2 := kl_inf 2 t
  rw [show TT 2 = 2147483648 from rfl, show IN 2 = 2139095040 from rfl] at k1 k2
  omega
theorem callFuncsSigns : ∀ l, args [.i .u32] l → oks l → CallOk PR i_anneallaw12_FuncsSigns l [] fun r _ => r = .b true :=
  rowT (fa := fa_anneallaw12_FuncsSigns) (F := G_anneallaw12_FuncsSigns) rfl rfl ok_anneallaw12_FuncsSigns (enters p_anneallaw12_FuncsSigns (by kernel_rfl) (by kernel_rfl)) rfl fun x hx =>
    funcsSigns ⟨hx.1.1, Int.lt_add_one_of_le hx.1.2⟩
end Go.Proofs.Ytkknnloamidaiaa.VI

namespace Go.Proofs.Ytkknnloamidaiaa.VI
set_option linter.unusedVariables false
set_option linter.unusedSimpArgs false
open Go.ChangeShapes Go.WideShapes Go.RowKit Go.WideElems Ytkknnloamidaiaa
set_option maxRecDepth 100000
theorem laid : laidOutB Try.prog = true := by kernel_rfl
theorem own : ownKnob Try.prog.godebug = none := by kernel_rfl
theorem lifted (os : Os) (started : os.Started) (H : Type) (enc : TypeId × Value → H) :
    ReturnsInHanded {} Try.checked os 3 .any (Rows.funcsSignsSpec.pre6 enc Try.prog Try.f3 Rows.funcsSignsRow.domain false) (Rows.funcsSignsSpec.post enc Try.prog Try.f3 false true false false) :=
  lift_args (C := Try.checked) own started (by kernel_rfl) Try.func3
    (ChangeSpec.witness6 (enc := enc) (C := Try.checked) false ⟨#[], #[.int .u32 0], []⟩ 8 (by kernel_rfl) (by kernel_rfl) (by kernel_rfl) (by kernel_rfl))
    laid Try.underlying4 rfl (by kernel_rfl) rfl (fun ds hd => match ds, hd with
    | [_], _ => rfl) (d := 6) (by kernel_rfl) (Fs := [.i .u32]) (by kernel_rfl) callFuncsSigns
theorem over : Rows.funcsSignsRow.holds Try.pinned (OpenSpec.ofChange Rows.funcsSignsSpec) :=
  OpenClaim.holds_of_wide 3 Try.f3 rfl rfl rfl rfl rfl rfl rfl ⟨rfl, rfl, rfl, rfl, rfl⟩ rfl rfl rfl rfl rfl (by kernel_rfl) Try.func3 (by kernel_rfl)
    (of_decide_eq_true (by kernel_rfl)) (by unfold Func.isWrapper; first | (rw [if_pos (by decide +kernel)]; kernel_rfl) | (rw [if_neg (by decide +kernel)]; exact ⟨rfl, rfl⟩))
    (fun os started H enc _ => lifted os started H enc)
end Go.Proofs.Ytkknnloamidaiaa.VI
