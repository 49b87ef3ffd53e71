import Derived.Test.YtkmkhcmfpbffjaaGreatT1f70c528
namespace Go.Proofs.YtkmkhcmfpbffjaaGreat.VI
set_option linter.unusedVariables false
set_option linter.unusedSimpArgs false
set_option maxRecDepth 100000
set_option maxHeartbeats 4000000
theorem w0 : w32 0 := ⟨by decide, by decide⟩
set_option maxHeartbeats 8000000
set_option exponentiation.threshold 2000
theorem turn2 {x : Int} (h : w32 x) : turnS 2 x = if 2147483648 ≤ x then x - 2147483648 else x + 2147483648 := by
  have h1 := h.1
  have h2 := h.2
  unfold turnS
  have e : sg 2 x = decide (2147483648 ≤ x) := by
    rw [Bool.eq_iff_iff, decide_eq_true_iff]; unfold sg; rw [decide_eq_true_iff, show TT 2 = 2147483648 from rfl]; omega
  rw [e]
  show (if decide (2147483648 ≤ x) = true then x % 4294967296 - 2147483648 else x % 4294967296 + 2147483648) = _
  rw [Int.emod_eq_of_lt h1 h2]
  by_cases k : 2147483648 ≤ x
  · rw [if_pos (decide_eq_true k), if_pos k]
  · rw [if_neg (by simp [k]), if_neg k]
theorem cs2 : BB 2 = 8388608 ∧ MM 2 = 23 ∧ RR 2 = 256 ∧ TT 2 = 2147483648 ∧ IN 2 = 2139095040 ∧ le 2 = -126 := by decide
def mv (m : Int) : Int := sig 2 m * 2 ^ (xp 2 m + 149).toNat
def vz (s : Int) : Int := sv (sg 2 s) (mv s)
theorem mv_up (c : Int) : mv c * 2 ^ 149 = sig 2 c * 2 ^ (xp 2 c + 298).toNat := by
  have := xp_bd 2 c
  unfold mv
  rw [Int.mul_assoc, ← p2_add]; congr 2; omega
def fnt (s : Int) : Prop := w32 s ∧ s % 2147483648 < 2139095040
theorem fin_nan {s : Int} (h : fnt s) : nan 2 s = false := by
  unfold nan; exact decide_eq_false (by show ¬ (2139095040 < s % 2147483648); have := h.2; omega)
theorem fin_inf {s : Int} (h : fnt s) : inff 2 s = false := by
  unfold inff; exact decide_eq_false (by show ¬ (s % 2147483648 = 2139095040); have := h.2; omega)
theorem mv_mod (s : Int) (h : w32 s) : mv (s % 2147483648) = mv s := by
  obtain ⟨c1, c2, c3, c4, c5, c6⟩ := cs2
  have h1 := h.1
  have h2 := h.2
  have e1 : s % 2147483648 / 8388608 % 256 = s / 8388608 % 256 := by omega
  have e2 : s % 2147483648 % 8388608 = s % 8388608 := by omega
  unfold mv xp sig ex ff
  rw [c1, c2, c3, c6, e1, e2]
theorem sgd {s : Int} (h : w32 s) : sg 2 s = decide (2147483648 ≤ s) := by
  have h1 := h.1
  have h2 := h.2
  unfold sg
  rw [show TT 2 = 2147483648 from rfl, Bool.eq_iff_iff, decide_eq_true_iff, decide_eq_true_iff]; omega
theorem vz_pos {s : Int} (h : w32 s) (k : s < 2147483648) : vz s = mv s := by
  unfold vz; rw [sgd h, decide_eq_false (by omega)]; rfl
theorem vz_neg {s : Int} (h : w32 s) (k : 2147483648 ≤ s) : vz s = -mv (s - 2147483648) := by
  have h1 := h.1
  have h2 := h.2
  unfold vz; rw [sgd h, decide_eq_true k, ← mv_mod s h, show s % 2147483648 = s - 2147483648 by omega]; rfl
theorem svl_up (x : Int) : sv (sg 2 x) (sig 2 x * 2 ^ (xp 2 x + 298).toNat) = vz x * 2 ^ 149 := by
  rw [← mv_up, sv_mul]; rfl
theorem turn_fin {b : Int} (fb : fnt b) : fnt (turnS 2 b) ∧ vz (turnS 2 b) = -vz b := by
  have w := fb.1
  have h1 := w.1
  have h2 := w.2
  have h3 := fb.2
  have e := turn2 w
  by_cases k : 2147483648 ≤ b
  · rw [if_pos k] at e
    rw [e]
    have w' : w32 (b - 2147483648) := ⟨by omega, by omega⟩
    refine ⟨⟨w', by omega⟩, ?_⟩
    rw [vz_neg w k, vz_pos w' (by omega)]; omega
  · rw [if_neg k] at e
    rw [e]
    have w' : w32 (b + 2147483648) := ⟨by omega, by omega⟩
    refine ⟨⟨w', by omega⟩, ?_⟩
    rw [vz_neg w' (by omega), vz_pos w (by omega), show b + 2147483648 - 2147483648 = b by omega]
theorem num_cls {z : Int} (w : w32 z) (hn : nan 2 z = false) (hi : inff 2 z = false) : fnt z := by
  refine ⟨w, ?_⟩
  unfold nan at hn; unfold inff at hi
  rw [show TT 2 = 2147483648 from rfl, show IN 2 = 2139095040 from rfl] at hn hi
  rw [decide_eq_false_iff_not] at hn hi; omega
theorem minusr_eq (f : Int) {a : Int} (h : w32 a) : F_945 f a = some (if nan f a then a % (2 * TT f) else turnS f a) := by
  have hb := mod_bd f a
  have hs := sg_iff f a h.1
  unfold F_945
  rw [nans_eq f [a] (by simp) (by simpa using h), maskr_eq, signr_eq]
  simp only [Option.bind_some, List.any_cons, List.any_nil, Bool.or_false, if_true]
  rw [and_TT f h.1 h.2]
  cases nan f a
  · simp only [cond_false, Bool.false_eq_true, if_false]
    congr 1
    have hT := TT_cs f
    have h1 := h.1
    have h2 := h.2
    unfold turnS
    rcases hT with e | e <;> rw [e] at hb hs ⊢
    · have x1 := u32_xor (a := a.toNat) (b := 32768) (by omega) (by decide)
      have x2 := u32_xor_lt (a := a.toNat) (b := 32768) (by omega) (by decide)
      rw [show ((a.toNat : Nat) : Int) = a by omega] at x1
      rw [show (32768 : Int) = ((32768 : Nat) : Int) from rfl, x1]
      have am := and_mask32 ((a.toNat ^^^ 32768 : Nat) : Int) 16 (by omega) (by omega) (by decide)
      rw [show (2 * ((32768 : Nat) : Int) - 1) = 2 ^ 16 - 1 from rfl, am]
      have x3 : ((a.toNat ^^^ 32768 : Nat) : Int) % 2 ^ 16 = (((a.toNat % 65536) ^^^ 32768 : Nat) : Int) := by
        rw [show ((2 : Int) ^ 16) = ((65536 : Nat) : Int) from rfl, ← Int.natCast_emod, show (65536 : Nat) = 2 ^ 16 from rfl, Nat.xor_mod_two_pow]
      rw [x3]
      have x4 := xor_top32 (a % (2 * 32768)) 15 (by decide) hb.1 hb.2.1
      have x5 := u32_xor (a := a.toNat % 65536) (b := 32768) (by omega) (by decide)
      rw [show ((a.toNat % 65536 : Nat) : Int) = a % (2 * 32768) by omega, show (((32768 : Nat) : Int)) = 2 ^ 15 from rfl, x4] at x5
      rw [← x5, show (2 : Int) ^ 15 = 32768 from rfl]
      by_cases hh : sg f a = true
      · rw [if_pos hh, if_neg (by have := hs.1 hh; omega)]
        rfl
      · rw [if_neg hh, if_pos (by have : ¬ 32768 ≤ a % (2 * 32768) := fun k => hh (hs.2 k); omega)]
        rfl
    · have x4 := xor_top32 (a % (2 * 2147483648)) 31 (by decide) hb.1 hb.2.1
      have ea : a % (2 * 2147483648) = a := Int.emod_eq_of_lt h1 (by omega)
      rw [ea, show (2 : Int) ^ 31 = 2147483648 from rfl] at x4
      rw [x4, ea]
      have am : ∀ y, w32 y → bits .and .u32 y (2 * 2147483648 - 1) = y := fun y hy => by
        have := and_mask32 y 32 hy.1 hy.2 (by decide)
        rw [show (2 : Int) ^ 32 - 1 = 2 * 2147483648 - 1 from rfl] at this
        rw [this]; exact Int.emod_eq_of_lt hy.1 (by have := hy.2; omega)
      by_cases hh : sg f a = true
      · have := hs.1 hh
        rw [if_pos hh, if_neg (by omega), am _ ⟨by omega, by omega⟩]
      · have : ¬ 2147483648 ≤ a % (2 * 2147483648) := fun k => hh (hs.2 k)
        rw [if_neg hh, if_pos (by omega), am _ ⟨by omega, by omega⟩]
  · rfl
theorem quo_le (f mode : Int) (g : Bool) (e A n : Int) (s k : Nat) (hn : 0 < n) (hA : 0 ≤ A) (h : 2 * BB f ≤ A * 2 ^ s / n) :
    pk f mode g e (A * 2 ^ s / n) (decide (A * 2 ^ s % n ≠ 0)) = pk f mode g (e - k) (A * 2 ^ (s + k) / n) (decide (A * 2 ^ (s + k) % n ≠ 0)) := by
  have p := p2_pos k
  have e1 : A * 2 ^ (s + k) / n / 2 ^ k = A * 2 ^ s / n := by
    rw [p2_add, ← Int.mul_assoc, Int.ediv_ediv_of_nonneg (show 0 ≤ n by omega), Int.mul_ediv_mul_of_pos_left _ _ p]
  have c := pk_coarse f mode g (e - k) (A * 2 ^ (s + k) / n) k (decide (A * 2 ^ (s + k) % n ≠ 0)) (by rw [e1]; exact h)
  rw [← c, e1, show e - (k : Int) + k = e by omega]
  congr 1
  have d1 := Int.mul_ediv_add_emod (A * 2 ^ (s + k)) n
  have d2 := Int.mul_ediv_add_emod (A * 2 ^ s) n
  have d3 := Int.mul_ediv_add_emod (A * 2 ^ (s + k) / n) (2 ^ k)
  rw [e1] at d3
  rw [p2_add, ← Int.mul_assoc] at d1 ⊢
  rw [p2_add, ← Int.mul_assoc] at d3
  have m1 := Int.emod_nonneg (A * 2 ^ s) (show n ≠ 0 by omega)
  have m2 := Int.emod_nonneg (A * 2 ^ s * 2 ^ k) (show n ≠ 0 by omega)
  have m3 := Int.emod_nonneg (A * 2 ^ s * 2 ^ k / n) (show (2 : Int) ^ k ≠ 0 by omega)
  generalize A * 2 ^ s * 2 ^ k / n % 2 ^ k = z at *
  generalize A * 2 ^ s * 2 ^ k % n = y at *
  generalize A * 2 ^ s % n = x at *
  generalize A * 2 ^ s * 2 ^ k / n = Q at *
  generalize A * 2 ^ s / n = q at *
  generalize A * 2 ^ s = B at *
  generalize (2 : Int) ^ k = P at *
  have key : n * z + y = x * P := by
    have h1 : (n * q + x) * P = n * (P * q + z) + y := by rw [d2, d3, d1]
    rw [Int.add_mul, Int.mul_add, ← Int.mul_assoc, Int.mul_right_comm n q P, Int.mul_assoc n P q, Int.mul_comm P q] at h1
    have : n * (q * P) = n * P * q := by rw [Int.mul_comm q P, Int.mul_assoc]
    omega
  rw [Bool.eq_iff_iff]
  simp only [decide_eq_true_eq, Bool.or_eq_true]
  constructor
  · intro hx
    have : 0 < x * P := Int.mul_pos (by omega) p
    by_cases hz : z = 0
    · left; subst hz; simp at key; omega
    · right; exact hz
  · intro hyz hx
    subst hx
    simp at key
    have : 0 ≤ n * z := Int.mul_nonneg (by omega) m3
    rcases hyz with h1 | h1
    · omega
    · have : 0 < n * z := Int.mul_pos hn (by omega)
      omega
theorem quo_eq (f mode : Int) (g : Bool) (e A n : Int) (s t : Nat) (hn : 0 < n) (hA : 0 ≤ A) (h : 2 * BB f ≤ A * 2 ^ s / n) (h' : 2 * BB f ≤ A * 2 ^ t / n) :
    pk f mode g (e - s) (A * 2 ^ s / n) (decide (A * 2 ^ s % n ≠ 0)) = pk f mode g (e - t) (A * 2 ^ t / n) (decide (A * 2 ^ t % n ≠ 0)) := by
  rcases Nat.le_total s t with k | k
  · have := quo_le f mode g (e - s) A n s (t - s) hn hA h
    rw [this, show s + (t - s) = t by omega]
    congr 1; omega
  · have := quo_le f mode g (e - t) A n t (s - t) hn hA h'
    rw [this, show t + (s - t) = s by omega]
    congr 1; omega
theorem norm_bd {m : Int} (h0 : 0 < m) (h1 : m < 16777216) : 8388608 ≤ m * 2 ^ (23 - lg m) ∧ m * 2 ^ (23 - lg m) < 16777216 ∧ ∀ i, i < 23 - lg m → m * 2 ^ i < 8388608 := by
  have hl := lg_le h0
  have hu := lg_lt h0
  have hb := lg_bd (k := 24) h0 (by have : (2 : Int) ^ 24 = 16777216 := rfl; omega)
  have c1 : (2 : Int) ^ 23 = 8388608 := rfl
  have c2 : (2 : Int) ^ 24 = 16777216 := rfl
  refine ⟨?_, ?_, fun i hi => ?_⟩
  · have := Int.mul_le_mul_of_nonneg_right hl (show (0 : Int) ≤ 2 ^ (23 - lg m) by have := p2_pos (23 - lg m); omega)
    rw [← p2_add, show lg m + (23 - lg m) = 23 by omega] at this; omega
  · have := Int.mul_lt_mul_of_pos_right hu (p2_pos (23 - lg m))
    rw [← p2_add, show lg m + 1 + (23 - lg m) = 24 by omega] at this; omega
  · have := Int.mul_lt_mul_of_pos_right hu (p2_pos i)
    rw [← p2_add] at this
    have h2 := p2_le (show lg m + 1 + i ≤ 23 by omega)
    omega
theorem divr_loop0 (f mode : Int) (s : Bool) (x m : Int) (t : Int × Int × Unit) (z : TH hf_91a_0) (h0 : 0 < m) (h1 : m < 16777216) (hx : -100000 ≤ x ∧ x ≤ 100000) :
    lim st_91a_0 ((f, (mode, (s, (x, (m, t))))), z) = some ((f, (mode, (s, (x - ((23 - lg m : Nat) : Int), (m * 2 ^ (23 - lg m), t))))), z) := by
  obtain ⟨b1, b2, b3⟩ := norm_bd h0 h1
  have hb := lg_bd (k := 24) h0 (by have : (2 : Int) ^ 24 = 16777216 := rfl; omega)
  have := lim_seq (st := st_91a_0) (fun i => ((f, (mode, (s, (x - (i : Int), (m * 2 ^ i, t))))), z)) (b := ((f, (mode, (s, (x - ((23 - lg m : Nat) : Int), (m * 2 ^ (23 - lg m), t))))), z)) (23 - lg m)
    (fun i hi R kn ko => by
      have h3 := b3 i hi
      have h4 : 0 < m * 2 ^ i := Int.mul_pos h0 (p2_pos i)
      unfold st_91a_0
      dsimp only
      rw [bif_dec, if_pos h3, wi64 (by omega), wu64 (by omega), show m * 2 ^ i * 2 = m * 2 ^ (i + 1) by rw [p2_succ, Int.mul_comm 2, Int.mul_assoc], show x - (i : Int) - 1 = x - ((i + 1 : Nat) : Int) by omega])
    (fun R kn ko => by
      unfold st_91a_0
      dsimp only
      rw [bif_dec, if_neg (Int.not_lt.2 b1)])
  simpa using this
theorem divr_loop1 (f mode : Int) (s : Bool) (x m y n : Int) (z : TH hf_91a_1) (h0 : 0 < n) (h1 : n < 16777216) (hx : -100000 ≤ y ∧ y ≤ 100000) :
    lim st_91a_1 ((f, (mode, (s, (x, (m, (y, (n, ()))))))), z) = some ((f, (mode, (s, (x, (m, (y - ((23 - lg n : Nat) : Int), (n * 2 ^ (23 - lg n), ()))))))), z) := by
  obtain ⟨b1, b2, b3⟩ := norm_bd h0 h1
  have hb := lg_bd (k := 24) h0 (by have : (2 : Int) ^ 24 = 16777216 := rfl; omega)
  have := lim_seq (st := st_91a_1) (fun i => ((f, (mode, (s, (x, (m, (y - (i : Int), (n * 2 ^ i, ()))))))), z)) (b := ((f, (mode, (s, (x, (m, (y - ((23 - lg n : Nat) : Int), (n * 2 ^ (23 - lg n), ()))))))), z)) (23 - lg n)
    (fun i hi R kn ko => by
      have h3 := b3 i hi
      have h4 : 0 < n * 2 ^ i := Int.mul_pos h0 (p2_pos i)
      unfold st_91a_1
      dsimp only
      rw [bif_dec, if_pos h3, wi64 (by omega), wu64 (by omega), show n * 2 ^ i * 2 = n * 2 ^ (i + 1) by rw [p2_succ, Int.mul_comm 2, Int.mul_assoc], show y - (i : Int) - 1 = y - ((i + 1 : Nat) : Int) by omega])
    (fun R kn ko => by
      unfold st_91a_1
      dsimp only
      rw [bif_dec, if_neg (Int.not_lt.2 b1)])
  simpa using this
theorem divr_eq (f mode : Int) {a b : Int} (ha : w32 a) (hb : w32 b) : F_91a f mode a b = some (divS f mode a b) := by
  have xa := xp_bd f a
  have xb := xp_bd f b
  have sa := sig_bd f a
  have sb := sig_bd f b
  have fb := fmt_bd f
  have road : sig f a ≠ 0 → sig f b ≠ 0 →
      ((lim st_91a_0 ((f, (mode, ((!(sg f a == sg f b)), (xp f a, (sig f a, (xp f b, sig f b, ())))))), ((false, (false, (false, (false, (false, ()))))), ()))).bind fun r22 =>
                    (lim st_91a_1 r22).bind fun r23 =>
                    bif (r23.1.2.2.2.2.2.2.1 == (0:Int)) then
                      none
                    else
                      bif (r23.1.2.2.2.2.2.2.1 == (0:Int)) then
                        none
                      else
                        (F_92b r23.1.1 r23.1.2.1 r23.1.2.2.1 (IntKind.wrap .i64 ((IntKind.wrap .i64 (r23.1.2.2.2.1 - r23.1.2.2.2.2.2.1)) - (40:Int))) (IntKind.wrap .u64 (Int.tdiv (IntKind.wrap .u64 (r23.1.2.2.2.2.1 * (1099511627776:Int))) r23.1.2.2.2.2.2.2.1)) ((Int.tmod (IntKind.wrap .u64 (r23.1.2.2.2.2.1 * (1099511627776:Int))) r23.1.2.2.2.2.2.2.1) != (0:Int))).bind fun r27 =>
                        (some r27)) = some (pk f mode (!(sg f a == sg f b)) (xp f a - (61 - lg (sig f a)) - xp f b) (sig f a * 2 ^ (61 - lg (sig f a)) / sig f b) (decide (sig f a * 2 ^ (61 - lg (sig f a)) % sig f b ≠ 0))) := by
    intro h1 h2
    generalize hA : sig f a = A at *
    generalize hN : sig f b = N at *
    generalize xp f a = x at *
    generalize xp f b = y at *
    generalize (!(sg f a == sg f b)) = g at *
    have hp : 0 < A := by omega
    have hq : 0 < N := by omega
    have c24 : (2 : Int) ^ 24 = 16777216 := rfl
    have la := lg_bd (k := 24) hp (by omega)
    have lb := lg_bd (k := 24) hq (by omega)
    obtain ⟨m1, m2, -⟩ := norm_bd hp (by omega)
    obtain ⟨n1, n2, -⟩ := norm_bd hq (by omega)
    rw [divr_loop0 f mode g x A _ _ hp (by omega) (by omega)]
    simp only [Option.bind_some]
    rw [divr_loop1 f mode g _ _ y N _ hq (by omega) (by omega)]
    simp only [Option.bind_some]
    have hz : (N * 2 ^ (23 - lg N) == 0) = false := beq_false_of_ne (by omega)
    rw [hz]
    simp only [cond_false]
    rw [wu64 (n := A * 2 ^ (23 - lg A) * 1099511627776) (by omega), tdiv_nn (by omega), tmod_nn (by omega)]
    have pn := p2_pos (23 - lg N)
    have e1 : A * 2 ^ (23 - lg A) * 1099511627776 = A * 2 ^ (23 - lg A + 40 - (23 - lg N)) * 2 ^ (23 - lg N) := by
      rw [Int.mul_assoc A (2 ^ (23 - lg A + 40 - (23 - lg N))), ← p2_add, show 23 - lg A + 40 - (23 - lg N) + (23 - lg N) = 23 - lg A + 40 by omega, p2_add, Int.mul_assoc]
      rfl
    have e2 : A * 2 ^ (23 - lg A) * 1099511627776 / (N * 2 ^ (23 - lg N)) = A * 2 ^ (23 - lg A + 40 - (23 - lg N)) / N := by
      rw [e1, Int.mul_ediv_mul_of_pos_left _ _ pn]
    have e3 : ((A * 2 ^ (23 - lg A) * 1099511627776 % (N * 2 ^ (23 - lg N))) != 0) = decide (A * 2 ^ (23 - lg A + 40 - (23 - lg N)) % N ≠ 0) := by
      rw [e1, Int.mul_comm _ (2 ^ (23 - lg N)), Int.mul_comm N, Int.mul_emod_mul_of_pos _ _ pn]
      generalize A * 2 ^ (23 - lg A + 40 - (23 - lg N)) % N = w at *
      generalize (2 : Int) ^ (23 - lg N) = P at *
      rw [Bool.eq_iff_iff]
      simp only [bne_iff_ne, decide_eq_true_eq, ne_eq, Int.mul_eq_zero]
      constructor
      · exact fun k h => k (Or.inr h)
      · rintro k (h | h)
        · omega
        · exact k h
    rw [e2, e3]
    have q1 : 2 * BB f ≤ A * 2 ^ (61 - lg A) / N := by
      have h3 := lg_le hp
      have h4 := Int.mul_le_mul_of_nonneg_right h3 (show (0 : Int) ≤ 2 ^ (61 - lg A) by have := p2_pos (61 - lg A); omega)
      rw [← p2_add, show lg A + (61 - lg A) = 61 by omega] at h4
      have c61 : (2 : Int) ^ 61 = 2305843009213693952 := rfl
      rw [Int.le_ediv_iff_mul_le hq]
      have : 2 * BB f * N ≤ 16777216 * N := Int.mul_le_mul_of_nonneg_right (by omega) (by omega)
      omega
    have q2 : 2 * BB f ≤ A * 2 ^ (23 - lg A + 40 - (23 - lg N)) / N := by
      rw [← e2, Int.le_ediv_iff_mul_le (by omega)]
      have : 2 * BB f * (N * 2 ^ (23 - lg N)) ≤ 16777216 * (N * 2 ^ (23 - lg N)) := Int.mul_le_mul_of_nonneg_right (by omega) (by omega)
      omega
    have d0 : 0 ≤ A * 2 ^ (23 - lg A + 40 - (23 - lg N)) / N := by omega
    have d1 : A * 2 ^ (23 - lg A + 40 - (23 - lg N)) / N < 18446744073709551616 := by
      rw [← e2]
      have : A * 2 ^ (23 - lg A) * 1099511627776 / (N * 2 ^ (23 - lg N)) ≤ A * 2 ^ (23 - lg A) * 1099511627776 := Int.ediv_le_self _ (by omega)
      omega
    rw [wu64 (n := A * 2 ^ (23 - lg A + 40 - (23 - lg N)) / N) (by omega), wi64 (n := x - ((23 - lg A : Nat) : Int) - (y - ((23 - lg N : Nat) : Int))) (by omega), wi64 (by omega), packr_eq f mode g _ ⟨d0, d1⟩]
    simp only [Option.bind_some]
    have := quo_eq f mode g (x - y) A N (61 - lg A) (23 - lg A + 40 - (23 - lg N)) hq (by omega) q1 q2
    rw [show x - y - ((61 - lg A : Nat) : Int) = x - (61 - (lg A : Int)) - y by omega] at this
    rw [this, show min (max (x - ((23 - lg A : Nat) : Int) - (y - ((23 - lg N : Nat) : Int)) - 40) (-10000)) 10000 = x - y - ((23 - lg A + 40 - (23 - lg N) : Nat) : Int) by omega]
  unfold F_91a divS
  rw [nans_eq f [a, b] (by simp) (by simpa using ⟨ha, hb⟩), negr_eq f ha, negr_eq f hb, zeror_eq f ha, zeror_eq f hb, infr_c f ha, infr_c f hb, unpackr_eq f ha, unpackr_eq f hb, nanr_w]
  simp only [Option.bind_some, List.any_cons, List.any_nil, Bool.or_false, infr_eq, zeror_w]
  have hsa : nan f a = false → inff f a = false → zr f a = false → sig f a ≠ 0 := fun h1 h2 h3 k => by rw [(sig_zero f a h1 h2).1 k] at h3; cases h3
  have hsb : nan f b = false → inff f b = false → zr f b = false → sig f b ≠ 0 := fun h1 h2 h3 k => by rw [(sig_zero f b h1 h2).1 k] at h3; cases h3
  rw [show decide (kl f a = 5) = loud f a from rfl, show decide (kl f b = 5) = loud f b from rfl]
  generalize pk f mode _ _ _ _ = W at *
  cases h1 : nan f a
  · cases h2 : nan f b
    · cases h3 : zr f a
      · cases h4 : zr f b
        · cases h5 : inff f a
          · cases h6 : inff f b
            · exact road (hsa h1 h5 h3) (hsb h2 h6 h4)
            · rfl
          · cases h6 : inff f b <;> rfl
        · cases h5 : inff f a <;> cases h6 : inff f b <;> rfl
      · cases h4 : zr f b <;> cases h5 : inff f a <;> cases h6 : inff f b <;> rfl
    · rfl
  · rfl
theorem rdiv_eq {a b : Int} (ha : w32 a) (hb : w32 b) : F_98 a b = some (divf a b) := by
  unfold F_98; rw [divr_eq 2 0 ha hb]; rfl
theorem fintr_eq (f mode : Int) {v : Int} (h : -9223372036854775808 ≤ v ∧ v ≤ 9223372036854775807) : F_91b f mode v = some (fintS f mode v) := by
  unfold F_91b fintS
  rw [bif_dec]
  by_cases k : v < 0
  · rw [if_pos k, wu64_eq v, wu64_eq, packr_eq f mode _ _ (show w64 ((0 - v % 18446744073709551616) % 18446744073709551616) from ⟨by omega, by omega⟩)]
    simp only [Option.bind_some]
    rw [decide_eq_true k, if_pos k, show (0 - v % 18446744073709551616) % 18446744073709551616 = -v by omega]
    rfl
  · rw [if_neg k, wu64 (by omega), packr_eq f mode _ _ (show w64 v from ⟨by omega, by omega⟩)]
    simp only [Option.bind_some]
    rw [decide_eq_false k, if_neg k]
    rfl
theorem rint_eq {n : Int} (h : -9223372036854775808 ≤ n ∧ n ≤ 9223372036854775807) : F_99 n = some (intf n) := by
  unfold F_99; rw [fintr_eq 2 0 h]; rfl
theorem len10 {l : List Int} (h : l.length = 10) : [l.getD 0 0, l.getD 1 0, l.getD 2 0, l.getD 3 0, l.getD 4 0, l.getD 5 0, l.getD 6 0, l.getD 7 0, l.getD 8 0, l.getD 9 0] = l := by
  match l, h with
  | [_, _, _, _, _, _, _, _, _, _], _ => rfl
def vf (g : Nat → Int) : Nat → Int
  | 0 => 0
  | n + 1 => vf g n + g n * 2 ^ (64 * n)
def lm (l : List Int) (i : Nat) : Int := l.getD i 0
theorem vf_bd {g : Nat → Int} : ∀ {n : Nat}, (∀ i, i < n → w64 (g i)) → 0 ≤ vf g n ∧ vf g n < 2 ^ (64 * n)
  | 0, _ => ⟨Int.le_refl _, by simp [vf]⟩
  | n + 1, h => by
    have ih := vf_bd (n := n) fun i hi => h i (by omega)
    have hn := h n (by omega)
    have p := p2_pos (64 * n)
    have e : (2 : Int) ^ (64 * (n + 1)) = 18446744073709551616 * 2 ^ (64 * n) := by
      rw [show 64 * (n + 1) = 64 + 64 * n by omega, p2_add]; rfl
    rw [e]
    simp only [vf]
    have a : 0 ≤ g n * 2 ^ (64 * n) := Int.mul_nonneg hn.1 (by omega)
    have b : (g n + 1) * 2 ^ (64 * n) ≤ 18446744073709551616 * 2 ^ (64 * n) := Int.mul_le_mul_of_nonneg_right (by omega) (by omega)
    rw [Int.add_mul] at b
    omega
theorem vf_congr {g h : Nat → Int} : ∀ {n : Nat}, (∀ i, i < n → g i = h i) → vf g n = vf h n
  | 0, _ => rfl
  | n + 1, e => by simp only [vf]; rw [vf_congr (n := n) fun i hi => e i (by omega), e n (by omega)]
theorem vf_zero {g : Nat → Int} : ∀ {n : Nat}, (∀ i, i < n → w64 (g i)) → (vf g n = 0 ↔ ∀ i, i < n → g i = 0)
  | 0, _ => by simp [vf]
  | n + 1, h => by
    have ih := vf_zero (n := n) fun i hi => h i (by omega)
    have bd := vf_bd (n := n) fun i hi => h i (by omega)
    have hn := h n (by omega)
    have p := p2_pos (64 * n)
    have a : 0 ≤ g n * 2 ^ (64 * n) := Int.mul_nonneg hn.1 (by omega)
    simp only [vf]
    constructor
    · intro k
      have k1 : vf g n = 0 := by omega
      have k2 : g n * 2 ^ (64 * n) = 0 := by omega
      have k3 : g n = 0 := by rcases Int.mul_eq_zero.1 k2 with q | q <;> omega
      intro i hi
      by_cases e : i = n
      · rw [e]; exact k3
      · exact ih.1 k1 i (by omega)
    · intro k
      rw [ih.2 fun i hi => k i (by omega), k n (by omega)]; simp
theorem vf_lt {g h : Nat → Int} {n : Nat} (hg : ∀ i, i < n → w64 (g i)) (hh : ∀ i, i < n → w64 (h i)) (a b : Int) :
    (a ≠ b → (decide (vf g n + a * 2 ^ (64 * n) < vf h n + b * 2 ^ (64 * n)) = decide (a < b))) := by
  intro hab
  have b1 := vf_bd hg
  have b2 := vf_bd hh
  have p := p2_pos (64 * n)
  rw [decide_eq_decide]
  generalize (2 : Int) ^ (64 * n) = P at *
  constructor
  · intro k
    apply Int.not_le.1; intro hle
    have : (b + 1) * P ≤ a * P := Int.mul_le_mul_of_nonneg_right (by omega) (by omega)
    rw [Int.add_mul] at this; omega
  · intro k
    have : (a + 1) * P ≤ b * P := Int.mul_le_mul_of_nonneg_right (by omega) (by omega)
    rw [Int.add_mul] at this; omega
abbrev WdT : Type := Bool × List Int × Unit
def wd (x : WdT) : Prop := x.2.1.length = 10 ∧ ∀ i, i < 10 → w64 (lm x.2.1 i)
theorem below_loop (xn yn : Bool) (X Y : List Int) (hX : X.length = 10) (hY : Y.length = 10) (wX : ∀ i, i < 10 → w64 (lm X i)) (wY : ∀ i, i < 10 → w64 (lm Y i)) : ∀ i : Nat, i ≤ 10 →
    ((lim st_98b_0 (((i : Int) - 1, ()), (((xn, ()), X), (((yn, ()), Y), ())))).bind fun r0 => els (fun l1 => (some false)) (fun r2 => (some r2.1.1)) r0) = some (decide (vf (lm X) i < vf (lm Y) i))
  | 0, _ => by
    rw [lim_done (b := Sum.inl ((), ())) (fun R kn ko => by
      unfold st_98b_0
      dsimp only
      rw [bif_dec, if_neg (by omega)])]
    rfl
  | i + 1, hi => by
    have ih := below_loop xn yn X Y hX hY wX wY i (by omega)
    have e1 : ((1:Nat) + ((Int.toNat (((i + 1 : Nat) : Int) - 1)) * (1:Nat))) - 1 = i := by omega
    have e2 : (Int.toNat (((i + 1 : Nat) : Int) - 1)) = i := by omega
    by_cases hne : lm X i = lm Y i
    · rw [lim_step (v' := (((i : Int) - 1, ()), (((xn, ()), X), (((yn, ()), Y), ())))) (fun R kn ko => by
        unfold st_98b_0
        dsimp only
        simp only [hX, hY, bif_dec]
        rw [if_pos (by omega), if_pos (by omega), if_pos (by omega), if_pos (by omega), if_pos (by omega), e1]
        have : (X.getD i 0 != Y.getD i 0) = false := by simpa [lm] using hne
        rw [this, wi64 (by omega)]
        rw [show (((i + 1 : Nat) : Int) - 1 - 1) = (i : Int) - 1 by omega]; rfl)]
      rw [ih]
      simp only [vf, hne]
      congr 1
      rw [decide_eq_decide]; omega
    · rw [lim_done (b := Sum.inr ((decide (lm X i < lm Y i), ()), ())) (fun R kn ko => by
        unfold st_98b_0
        dsimp only
        simp only [hX, hY, bif_dec]
        rw [if_pos (by omega), if_pos (by omega), if_pos (by omega), if_pos (by omega), if_pos (by omega), e1]
        have : (X.getD i 0 != Y.getD i 0) = true := by simpa [lm] using hne
        rw [this]
        simp only [cond_true]
        rw [if_pos (by omega), if_pos (by omega), if_pos (by omega), if_pos (by omega)]; rfl)]
      have t := vf_lt (n := i) (fun j hj => wX j (by omega)) (fun j hj => wY j (by omega)) (lm X i) (lm Y i) hne
      show some (decide (lm X i < lm Y i)) = some (decide (vf (lm X) (i + 1) < vf (lm Y) (i + 1)))
      rw [← t]; rfl
theorem below_eq {x y : WdT} (hx : wd x) (hy : wd y) : F_98b x y = some (decide (vf (lm x.2.1) 10 < vf (lm y.2.1) 10)) := by
  unfold F_98b
  rw [len10 hx.1, len10 hy.1]
  exact below_loop x.1 y.1 x.2.1 y.2.1 hx.1 hy.1 hx.2 hy.2 10 (by omega)
def cr (x y : Nat → Int) : Nat → Int
  | 0 => 0
  | n + 1 => (x n + y n + cr x y n) / 18446744073709551616
def dg (x y : Nat → Int) (i : Nat) : Int := (x i + y i + cr x y i) % 18446744073709551616
theorem cr_bd {x y : Nat → Int} : ∀ {n : Nat}, (∀ i, i < n → w64 (x i)) → (∀ i, i < n → w64 (y i)) → 0 ≤ cr x y n ∧ cr x y n ≤ 1
  | 0, _, _ => by simp [cr]
  | n + 1, hx, hy => by
    have ih := cr_bd (n := n) (fun i hi => hx i (by omega)) (fun i hi => hy i (by omega))
    have a := hx n (by omega)
    have b := hy n (by omega)
    simp only [cr]; omega
theorem add_vf (x y : Nat → Int) : ∀ n : Nat, vf (dg x y) n + cr x y n * 2 ^ (64 * n) = vf x n + vf y n
  | 0 => by simp [vf, cr]
  | n + 1 => by
    have ih := add_vf x y n
    have e : (2 : Int) ^ (64 * (n + 1)) = 18446744073709551616 * 2 ^ (64 * n) := by
      rw [show 64 * (n + 1) = 64 + 64 * n by omega, p2_add]; rfl
    simp only [vf, cr, dg]
    rw [e, ← Int.mul_assoc]
    have h := Int.emod_add_mul_ediv (x n + y n + cr x y n) 18446744073709551616
    generalize (x n + y n + cr x y n) / 18446744073709551616 = q at *
    generalize (x n + y n + cr x y n) % 18446744073709551616 = r at *
    generalize (2 : Int) ^ (64 * n) = P at *
    have k : r * P + q * 18446744073709551616 * P = (x n + y n + cr x y n) * P := by rw [← Int.add_mul, ← h]; congr 1; omega
    rw [Int.add_mul, Int.add_mul] at k
    omega
def bw (x y : Nat → Int) : Nat → Int
  | 0 => 0
  | n + 1 => if x n - y n - bw x y n < 0 then 1 else 0
def dm (x y : Nat → Int) (i : Nat) : Int := (x i - y i - bw x y i) % 18446744073709551616
theorem bw_bd (x y : Nat → Int) : ∀ n : Nat, 0 ≤ bw x y n ∧ bw x y n ≤ 1
  | 0 => by simp [bw]
  | n + 1 => by simp only [bw]; split <;> omega
theorem sub_vf {x y : Nat → Int} : ∀ {n : Nat}, (∀ i, i < n → w64 (x i)) → (∀ i, i < n → w64 (y i)) → vf (dm x y) n - bw x y n * 2 ^ (64 * n) = vf x n - vf y n
  | 0, _, _ => by simp [vf, bw]
  | n + 1, hx, hy => by
    have ih := sub_vf (n := n) (fun i hi => hx i (by omega)) (fun i hi => hy i (by omega))
    have a := hx n (by omega)
    have b := hy n (by omega)
    have c := bw_bd x y n
    have e : (2 : Int) ^ (64 * (n + 1)) = 18446744073709551616 * 2 ^ (64 * n) := by
      rw [show 64 * (n + 1) = 64 + 64 * n by omega, p2_add]; rfl
    simp only [vf, bw, dm]
    rw [e, ← Int.mul_assoc]
    have h : (x n - y n - bw x y n) % 18446744073709551616 - (if x n - y n - bw x y n < 0 then 1 else 0) * 18446744073709551616 = x n - y n - bw x y n := by
      split <;> omega
    generalize (x n - y n - bw x y n) % 18446744073709551616 = r at *
    generalize (if x n - y n - bw x y n < 0 then (1 : Int) else 0) = q at *
    generalize (2 : Int) ^ (64 * n) = P at *
    have k : r * P - q * 18446744073709551616 * P = (x n - y n - bw x y n) * P := by rw [← Int.sub_mul, ← h]
    rw [Int.sub_mul, Int.sub_mul] at k
    omega
def part (d : Nat → Int) (X : List Int) (i : Nat) : List Int := (List.range i).map d ++ X.drop i
theorem part_len {d : Nat → Int} {X : List Int} {i : Nat} (hX : X.length = 10) (hi : i ≤ 10) : (part d X i).length = 10 := by
  unfold part; simp; omega
theorem part_get {d : Nat → Int} {X : List Int} {i : Nat} (hX : X.length = 10) (hi : i < 10) : (part d X i).getD i 0 = lm X i := by
  unfold part lm
  rw [List.getD_eq_getElem?_getD, List.getElem?_append_right (by simp)]
  simp
theorem part_set {d : Nat → Int} {X : List Int} {i : Nat} (hX : X.length = 10) (hi : i < 10) : (part d X i).set i (d i) = part d X (i + 1) := by
  unfold part
  rw [List.set_append, if_neg (by simp), List.range_succ, List.map_append, List.append_assoc]
  congr 1
  rw [List.length_map, List.length_range, Nat.sub_self, List.drop_eq_getElem_cons (by omega)]
  rfl
theorem part_ten {d : Nat → Int} {X : List Int} (hX : X.length = 10) : part d X 10 = (List.range 10).map d := by
  unfold part; rw [List.drop_of_length_le (by omega), List.append_nil]
theorem lm_range (d : Nat → Int) {i : Nat} (hi : i < 10) : lm ((List.range 10).map d) i = d i := by
  unfold lm; rw [List.getD_eq_getElem?_getD, List.getElem?_map, List.getElem?_range hi]; rfl
theorem plus_loop (xn yn : Bool) (X Y : List Int) (z : (Bool × Unit) × List Int) (hX : X.length = 10) (hY : Y.length = 10) (wX : ∀ i, i < 10 → w64 (lm X i)) (wY : ∀ i, i < 10 → w64 (lm Y i)) :
    lim st_984_0 (((0:Int), ((0:Int), ())), (((xn, ()), X), (((yn, ()), Y), (z, ())))) = some ((), (((xn, ()), (List.range 10).map (dg (lm X) (lm Y))), (z, ()))) := by
  have := lim_seq (st := st_984_0) (fun i => ((cr (lm X) (lm Y) i, ((i : Int), ())), (((xn, ()), part (dg (lm X) (lm Y)) X i), (((yn, ()), Y), (z, ())))))
    (b := ((), (((xn, ()), (List.range 10).map (dg (lm X) (lm Y))), (z, ())))) 10
    (fun i hi R kn ko => by
      have a := wX i hi
      have b := wY i hi
      have c := cr_bd (x := lm X) (y := lm Y) (n := i) (fun j hj => wX j (by omega)) (fun j hj => wY j (by omega))
      have hl := part_len (d := dg (lm X) (lm Y)) hX (Nat.le_of_lt hi)
      have hg := part_get (d := dg (lm X) (lm Y)) hX hi
      have hY0 : Y.getD i 0 = lm Y i := rfl
      have e1 : ((1:Nat) + ((Int.toNat (i : Int)) * (1:Nat))) - 1 = i := by omega
      unfold st_984_0
      dsimp only
      simp only [hl, hY, bif_dec, e1, hg, hY0]
      rw [if_pos (by omega), if_pos (by omega), if_pos (by omega), if_pos (by omega), if_pos (by omega), if_pos (by omega), if_pos (by omega)]
      have hd : IntKind.u64.wrap (IntKind.u64.wrap (lm X i + lm Y i) + cr (lm X) (lm Y) i) = dg (lm X) (lm Y) i := by
        unfold dg; rw [wu64_eq, wu64_eq]; omega
      rw [hd, part_set hX hi, wi64 (by omega), show ((i + 1 : Nat) : Int) = (i : Int) + 1 by omega]
      by_cases o : IntKind.u64.wrap (lm X i + lm Y i) < lm X i
      · rw [if_pos o, if_pos (by omega), if_pos (by omega)]
        have : cr (lm X) (lm Y) (i + 1) = 1 := by simp only [cr]; rw [wu64_eq] at o; omega
        rw [this]
      · rw [if_neg o, if_pos (by omega), if_pos (by omega)]
        have : (if dg (lm X) (lm Y) i < IntKind.u64.wrap (lm X i + lm Y i) then (1 : Int) else 0) = cr (lm X) (lm Y) (i + 1) := by
          rw [wu64_eq] at o
          by_cases t : dg (lm X) (lm Y) i < IntKind.u64.wrap (lm X i + lm Y i)
          · rw [if_pos t]; rw [wu64_eq] at t; simp only [cr]; unfold dg at t; omega
          · rw [if_neg t]; rw [wu64_eq] at t; simp only [cr]; unfold dg at t; omega
        rw [this])
    (fun R kn ko => by
      unfold st_984_0
      dsimp only
      rw [bif_dec, if_neg (by decide), part_ten hX])
  exact this
theorem minus_loop (xn yn : Bool) (X Y : List Int) (z : (Bool × Unit) × List Int) (hX : X.length = 10) (hY : Y.length = 10) (wX : ∀ i, i < 10 → w64 (lm X i)) (wY : ∀ i, i < 10 → w64 (lm Y i)) :
    lim st_98a_0 (((0:Int), ((0:Int), ())), (((xn, ()), X), (((yn, ()), Y), (z, ())))) = some ((), (((xn, ()), (List.range 10).map (dm (lm X) (lm Y))), (z, ()))) := by
  have := lim_seq (st := st_98a_0) (fun i => ((bw (lm X) (lm Y) i, ((i : Int), ())), (((xn, ()), part (dm (lm X) (lm Y)) X i), (((yn, ()), Y), (z, ())))))
    (b := ((), (((xn, ()), (List.range 10).map (dm (lm X) (lm Y))), (z, ())))) 10
    (fun i hi R kn ko => by
      have a := wX i hi
      have b := wY i hi
      have c := bw_bd (lm X) (lm Y) i
      have hl := part_len (d := dm (lm X) (lm Y)) hX (Nat.le_of_lt hi)
      have hg := part_get (d := dm (lm X) (lm Y)) hX hi
      have hY0 : Y.getD i 0 = lm Y i := rfl
      have e1 : ((1:Nat) + ((Int.toNat (i : Int)) * (1:Nat))) - 1 = i := by omega
      unfold st_98a_0
      dsimp only
      simp only [hl, hY, bif_dec, e1, hg, hY0]
      rw [if_pos (by omega), if_pos (by omega), if_pos (by omega), if_pos (by omega), if_pos (by omega), if_pos (by omega), if_pos (by omega), if_pos (by omega), if_pos (by omega)]
      have hd : IntKind.u64.wrap (IntKind.u64.wrap (lm X i - lm Y i) - bw (lm X) (lm Y) i) = dm (lm X) (lm Y) i := by
        unfold dm; rw [wu64_eq, wu64_eq]; omega
      rw [hd, part_set hX hi, wi64 (by omega), show ((i + 1 : Nat) : Int) = (i : Int) + 1 by omega]
      by_cases o : lm X i < lm Y i
      · rw [if_pos o, if_pos (by omega), if_pos (by omega)]
        have : bw (lm X) (lm Y) (i + 1) = 1 := by simp only [bw]; rw [if_pos (by omega)]
        rw [this]
      · rw [if_neg o, if_pos (by omega), if_pos (by omega)]
        have : (if IntKind.u64.wrap (lm X i - lm Y i) < bw (lm X) (lm Y) i then (1 : Int) else 0) = bw (lm X) (lm Y) (i + 1) := by
          simp only [bw]; rw [wu64_eq]; split <;> split <;> omega
        rw [this])
    (fun R kn ko => by
      unfold st_98a_0
      dsimp only
      rw [bif_dec, if_neg (by decide), part_ten hX])
  exact this
def vl (x : WdT) : Int := vf (lm x.2.1) 10
theorem vl_bd {x : WdT} (h : wd x) : 0 ≤ vl x ∧ vl x < 2 ^ 640 := vf_bd h.2
theorem dm_w (x y : Nat → Int) (i : Nat) : w64 (dm x y i) := by unfold dm; exact ⟨by omega, by omega⟩
theorem dg_w (x y : Nat → Int) (i : Nat) : w64 (dg x y i) := by unfold dg; exact ⟨by omega, by omega⟩
theorem range_wd (n : Bool) (d : Nat → Int) (h : ∀ i, w64 (d i)) : wd (n, (List.range 10).map d, ()) ∧ vl (n, (List.range 10).map d, ()) = vf d 10 :=
  ⟨⟨by simp, fun i hi => by rw [lm_range d hi]; exact h i⟩, vf_congr fun i hi => lm_range d hi⟩
theorem minus_eq {x y : WdT} (hx : wd x) (hy : wd y) : ∃ r, F_98a x y = some r ∧ wd r ∧
    ((vl x < vl y → r.1 = y.1 ∧ vl r = vl y - vl x) ∧ (¬ vl x < vl y → r.1 = x.1 ∧ vl r = vl x - vl y)) := by
  have hb := below_eq hx hy
  unfold F_98a
  simp only [len10 hx.1, len10 hy.1]
  rw [show (x.1, x.2.1, ()) = x from rfl, show (y.1, y.2.1, ()) = y from rfl, hb]
  simp only [Option.bind_some]
  have bx := vl_bd hx
  have by' := vl_bd hy
  by_cases h : vl x < vl y
  · have h' : vf (lm x.2.1) 10 < vf (lm y.2.1) 10 := h
    rw [decide_eq_true h']
    simp only [cond_true]
    rw [minus_loop y.1 x.1 y.2.1 x.2.1 _ hy.1 hx.1 hy.2 hx.2]
    simp only [Option.bind_some]
    have hl : ((List.range 10).map (dm (lm y.2.1) (lm x.2.1))).length = 10 := by simp
    simp only [len10 hl]
    rw [show (List.map (dm (lm y.2.1) (lm x.2.1)) (List.range 10)).length = 10 from hl]
    rw [bif_dec, if_pos (by decide), bif_dec, if_pos (by decide)]
    have rw_ := range_wd y.1 (dm (lm y.2.1) (lm x.2.1)) (dm_w _ _)
    refine ⟨_, rfl, rw_.1, fun _ => ⟨rfl, ?_⟩, fun n => absurd h n⟩
    rw [rw_.2]
    have s := sub_vf (n := 10) hy.2 hx.2
    have b := bw_bd (lm y.2.1) (lm x.2.1) 10
    have d := vf_bd (n := 10) (g := dm (lm y.2.1) (lm x.2.1)) fun i _ => dm_w _ _ i
    unfold vl at h ⊢
    have e : bw (lm y.2.1) (lm x.2.1) 10 = 0 := by
      rcases (show bw (lm y.2.1) (lm x.2.1) 10 = 0 ∨ bw (lm y.2.1) (lm x.2.1) 10 = 1 by omega) with k | k
      · exact k
      · rw [k] at s; omega
    rw [e] at s; omega
  · have h' : ¬ vf (lm x.2.1) 10 < vf (lm y.2.1) 10 := h
    rw [decide_eq_false h']
    simp only [cond_false]
    rw [minus_loop x.1 y.1 x.2.1 y.2.1 _ hx.1 hy.1 hx.2 hy.2]
    simp only [Option.bind_some]
    have hl : ((List.range 10).map (dm (lm x.2.1) (lm y.2.1))).length = 10 := by simp
    simp only [len10 hl]
    rw [show (List.map (dm (lm x.2.1) (lm y.2.1)) (List.range 10)).length = 10 from hl]
    rw [bif_dec, if_pos (by decide), bif_dec, if_pos (by decide)]
    have rw_ := range_wd x.1 (dm (lm x.2.1) (lm y.2.1)) (dm_w _ _)
    refine ⟨_, rfl, rw_.1, fun n => absurd n h, fun _ => ⟨rfl, ?_⟩⟩
    rw [rw_.2]
    have s := sub_vf (n := 10) hx.2 hy.2
    have b := bw_bd (lm x.2.1) (lm y.2.1) 10
    have d := vf_bd (n := 10) (g := dm (lm x.2.1) (lm y.2.1)) fun i _ => dm_w _ _ i
    unfold vl at h ⊢
    have e : bw (lm x.2.1) (lm y.2.1) 10 = 0 := by
      rcases (show bw (lm x.2.1) (lm y.2.1) 10 = 0 ∨ bw (lm x.2.1) (lm y.2.1) 10 = 1 by omega) with k | k
      · exact k
      · rw [k] at s; omega
    rw [e] at s; omega
theorem plus_eq {x y : WdT} (hx : wd x) (hy : wd y) (hov : vl x + vl y < 2 ^ 640) : ∃ r, F_984 x y = some r ∧ wd r ∧ sv r.1 (vl r) = sv x.1 (vl x) + sv y.1 (vl y) := by
  unfold F_984
  simp only [len10 hx.1, len10 hy.1]
  rw [show (x.1, x.2.1, ()) = x from rfl, show (y.1, y.2.1, ()) = y from rfl]
  by_cases h : x.1 = y.1
  · have : (!(x.1 == y.1)) = false := by simpa using h
    rw [this]
    simp only [cond_false]
    rw [plus_loop x.1 y.1 x.2.1 y.2.1 _ hx.1 hy.1 hx.2 hy.2]
    simp only [Option.bind_some]
    have hl : ((List.range 10).map (dg (lm x.2.1) (lm y.2.1))).length = 10 := by simp
    simp only [len10 hl]
    rw [show (List.map (dg (lm x.2.1) (lm y.2.1)) (List.range 10)).length = 10 from hl]
    rw [bif_dec, if_pos (by decide), bif_dec, if_pos (by decide)]
    have rw_ := range_wd x.1 (dg (lm x.2.1) (lm y.2.1)) (dg_w _ _)
    refine ⟨_, rfl, rw_.1, ?_⟩
    rw [rw_.2]
    have s := add_vf (lm x.2.1) (lm y.2.1) 10
    have b := cr_bd (n := 10) hx.2 hy.2
    have d := vf_bd (n := 10) (g := dg (lm x.2.1) (lm y.2.1)) fun i _ => dg_w _ _ i
    unfold vl at hov ⊢
    have e : cr (lm x.2.1) (lm y.2.1) 10 = 0 := by
      rcases (show cr (lm x.2.1) (lm y.2.1) 10 = 0 ∨ cr (lm x.2.1) (lm y.2.1) 10 = 1 by omega) with k | k
      · exact k
      · rw [k] at s; omega
    rw [e] at s
    simp only
    rw [← h]
    unfold sv; split <;> omega
  · have : (!(x.1 == y.1)) = true := by simpa using h
    rw [this]
    simp only [cond_true]
    obtain ⟨r, hr, wr, h1, h2⟩ := minus_eq hx hy
    rw [hr]
    simp only [Option.bind_some, len10 wr.1]
    refine ⟨_, rfl, wr, ?_⟩
    rw [show (r.1, r.2.1, ()) = r from rfl]
    by_cases k : vl x < vl y
    · have := h1 k
      rw [this.1, this.2]
      unfold sv
      cases hx1 : x.1 <;> cases hy1 : y.1 <;> simp [hx1, hy1] at h ⊢ <;> omega
    · have := h2 k
      rw [this.1, this.2]
      unfold sv
      cases hx1 : x.1 <;> cases hy1 : y.1 <;> simp [hx1, hy1] at h ⊢ <;> omega
theorem rounded_top (f mode : Int) (xn : Bool) (X : List Int) (z : ExcT) (hX : X.length = 10) (wX : ∀ i, i < 10 → w64 (lm X i)) : ∀ i : Nat, i < 10 → vf (lm X) (i + 1) ≠ 0 →
    ∃ j : Nat, j ≤ i ∧ lm X j ≠ 0 ∧ vf (lm X) (i + 1) = vf (lm X) (j + 1) ∧ lim st_986_0 ((f, (mode, ((i : Int), ()))), (((xn, ()), X), (z, ()))) = some ((f, (mode, ((j : Int), ()))), (((xn, ()), X), (z, ())))
  | i, hi, hv => by
    by_cases h0 : lm X i = 0
    · match i, hi, hv, h0 with
      | 0, hi, hv, h0 => simp only [vf] at hv; rw [h0] at hv; simp at hv
      | i + 1, hi, hv, h0 =>
        have e : vf (lm X) (i + 1 + 1) = vf (lm X) (i + 1) := by
          show vf (lm X) (i + 1) + lm X (i + 1) * 2 ^ (64 * (i + 1)) = _
          rw [h0]; simp
        obtain ⟨j, h1, h2, h3, h4⟩ := rounded_top f mode xn X z hX wX i (by omega) (by rw [← e]; exact hv)
        refine ⟨j, by omega, h2, by rw [e]; exact h3, ?_⟩
        rw [lim_step (v' := ((f, (mode, ((i : Int), ()))), (((xn, ()), X), (z, ())))) (fun R kn ko => by
          have e1 : ((1:Nat) + ((Int.toNat (((i + 1 : Nat) : Int))) * (1:Nat))) - 1 = i + 1 := by omega
          unfold st_986_0
          dsimp only
          simp only [hX, bif_dec, e1]
          rw [if_pos (by omega), if_pos (by omega)]
          have : (X.getD (i + 1) 0 == 0) = true := by simpa [lm] using h0
          rw [this, wi64 (by omega), show ((i + 1 : Nat) : Int) - 1 = (i : Int) by omega]; rfl)]
        exact h4
    · refine ⟨i, Nat.le_refl _, h0, rfl, lim_done (fun R kn ko => ?_)⟩
      have e1 : ((1:Nat) + ((Int.toNat (((i : Nat) : Int))) * (1:Nat))) - 1 = i := by omega
      unfold st_986_0
      dsimp only
      simp only [hX, bif_dec, e1]
      rw [if_pos (by omega), if_pos (by omega)]
      have : (X.getD i 0 == 0) = false := by simpa [lm] using h0
      rw [this]; rfl
theorem rounded_low (f mode : Int) (xn : Bool) (X : List Int) (z : ExcT) (j : Nat) (sg ex : Int) (more : Bool) (hX : X.length = 10) (wX : ∀ i, i < 10 → w64 (lm X i)) (hj : j < 10) (hj1 : 1 ≤ j) :
    lim st_986_1 ((f, (mode, ((j : Int), (sg, (ex, (more, ((0:Int), ()))))))), (((xn, ()), X), (z, ()))) = some ((f, (mode, (sg, (ex, (more || decide (vf (lm X) (j - 1) ≠ 0), ()))))), (((xn, ()), X), (z, ()))) := by
  have := lim_seq (st := st_986_1) (fun i => ((f, (mode, ((j : Int), (sg, (ex, (more || decide (vf (lm X) i ≠ 0), ((i : Int), ()))))))), (((xn, ()), X), (z, ()))))
    (b := ((f, (mode, (sg, (ex, (more || decide (vf (lm X) (j - 1) ≠ 0), ()))))), (((xn, ()), X), (z, ())))) (j - 1)
    (fun i hi R kn ko => by
      have e1 : ((1:Nat) + ((Int.toNat (((i : Nat) : Int))) * (1:Nat))) - 1 = i := by omega
      have a := wX i (by omega)
      have b := vf_bd (n := i) (g := lm X) fun k hk => wX k (by omega)
      have p := p2_pos (64 * i)
      have c : 0 ≤ lm X i * 2 ^ (64 * i) := Int.mul_nonneg a.1 (by omega)
      unfold st_986_1
      dsimp only
      rw [wi64 (n := (j : Int) - 1) (by omega), wi64 (n := (i : Int) + 1) (by omega), show ((i + 1 : Nat) : Int) = (i : Int) + 1 by omega, bif_dec, if_pos (by omega)]
      by_cases k : (more || decide (vf (lm X) i ≠ 0)) = true
      · have k2 : (more || decide (vf (lm X) (i + 1) ≠ 0)) = true := by
          cases more
          · simp at k ⊢; simp only [vf]; omega
          · rfl
        rw [k, k2]; rfl
      · have k1 : more = false ∧ vf (lm X) i = 0 := by simpa using k
        simp only [hX, bif_dec, e1]
        have k3 : (more || decide (vf (lm X) i ≠ 0)) = false := by simp [k1.1, k1.2]
        rw [k3, if_pos (by omega), if_pos (by omega)]
        have k4 : (X.getD i 0 != 0) = (more || decide (vf (lm X) (i + 1) ≠ 0)) := by
          rw [k1.1]
          show (lm X i != 0) = _
          have ev : vf (lm X) (i + 1) = lm X i * 2 ^ (64 * i) := by simp only [vf]; omega
          have q := Int.mul_eq_zero (a := lm X i) (b := 2 ^ (64 * i))
          rw [Bool.eq_iff_iff]
          simp only [bne_iff_ne, Bool.false_or, decide_eq_true_eq]
          rw [ev]
          constructor
          · intro n m; rcases q.1 m with r | r
            · exact n r
            · omega
          · intro n m; apply n; rw [m]; simp
        rw [k4]; rfl)
    (fun R kn ko => by
      unfold st_986_1
      dsimp only
      rw [wi64 (n := (j : Int) - 1) (by omega), bif_dec, if_neg (by omega)])
  have e0 : (more || decide (vf (lm X) 0 ≠ 0)) = more := by simp [vf]
  rw [e0] at this
  exact this
theorem rounded_eq (f mode : Int) {x : WdT} (hx : wd x) (hv : vl x ≠ 0) : F_986 f mode x = some (pk f mode x.1 (-298) (vl x) false) := by
  unfold F_986
  rw [len10 hx.1]
  obtain ⟨j, hj, hn, hval, hlim⟩ := rounded_top f mode x.1 x.2.1 EXC0 hx.1 hx.2 9 (by omega) hv
  have hlim' : lim st_986_0 ((f, (mode, ((9:Int), ()))), (((x.1, ()), x.2.1), ((false, (false, (false, (false, (false, ()))))), ()))) = _ := hlim
  rw [hlim']
  have wj := hx.2 j (by omega)
  have e1 : ((1:Nat) + ((Int.toNat ((j : Nat) : Int)) * (1:Nat))) - 1 = j := by omega
  have hg : x.2.1.getD j 0 = lm x.2.1 j := rfl
  have hvj : vl x = vf (lm x.2.1) j + lm x.2.1 j * 2 ^ (64 * j) := hval
  have hp : 0 < lm x.2.1 j := by have := wj.1; omega
  have l64 := lg_bd (k := 64) hp (by have : (2 : Int) ^ 64 = 18446744073709551616 := rfl; have := wj.2; omega)
  simp only [Option.bind_some, hx.1, e1, hg, bif_dec]
  rw [if_pos (by omega), if_pos (by omega), lenr_eq wj]
  simp only [Option.bind_some]
  rw [if_pos (by omega), if_pos (by omega), ln_pos hp, wi64 (n := 64 * (j : Int)) (by omega), wi64 (n := 64 * (j : Int) - 298) (by omega)]
  by_cases j0 : j = 0
  · subst j0
    rw [if_neg (by omega), packr_eq f mode _ _ wj]
    simp only [Option.bind_some]
    have hm : min (max (64 * ((0 : Nat) : Int) - 298) (-10000)) 10000 = -298 := by omega
    rw [hvj, hm]
    simp [vf]
  rw [if_pos (by omega)]
  obtain ⟨i, rfl⟩ : ∃ i, j = i + 1 := ⟨j - 1, by omega⟩
  have wi_ := hx.2 i (by omega)
  have e2 : ((1:Nat) + ((Int.toNat (((i + 1 : Nat) : Int) - 1)) * (1:Nat))) - 1 = i := by omega
  have hg2 : x.2.1.getD i 0 = lm x.2.1 i := rfl
  simp only [wi64 (n := ((i + 1 : Nat) : Int) - 1) (show -9223372036854775808 ≤ ((i + 1 : Nat) : Int) - 1 ∧ ((i + 1 : Nat) : Int) - 1 ≤ 9223372036854775807 by omega), e2, hg2]
  have hlow := fun sg ex more => rounded_low f mode x.1 x.2.1 EXC0 (i + 1) sg ex more hx.1 hx.2 (by omega) (by omega)
  rw [show i + 1 - 1 = i by omega] at hlow
  have hlt := lg_lt hp
  have hle := lg_le hp
  have b := vf_bd (n := i) (g := lm x.2.1) fun k hk => hx.2 k (by omega)
  have hvi : vl x = vf (lm x.2.1) i + lm x.2.1 i * 2 ^ (64 * i) + lm x.2.1 (i + 1) * 2 ^ (64 * (i + 1)) := hvj
  generalize lm x.2.1 (i + 1) = H at *
  generalize lm x.2.1 i = L at *
  generalize vf (lm x.2.1) i = low at *
  generalize hn' : lg H + 1 = n at *
  have hlg : (lg H : Int) + 1 = n := by omega
  rw [hlg]
  have w1 : IntKind.i64.wrap (64 - (n : Int)) = 64 - n := wi64 (by omega)
  simp only [w1, bif_eq]
  rw [if_pos (by omega), if_pos (by omega), if_pos (by omega), if_pos (by omega)]
  have ht : (64 - (n : Int)).toNat = 64 - n := by omega
  rw [show (min (64 - (n : Int)).toNat 64) = 64 - n by omega, show (min ((n : Int)).toNat 64) = n by omega]
  have pk_ := p2_pos (64 - n)
  have pn := p2_pos n
  have psplit : (2 : Int) ^ (64 - n) * 2 ^ n = 18446744073709551616 := by rw [← p2_add, show 64 - n + n = 64 by omega]; rfl
  have hHk : H * 2 ^ (64 - n) < 18446744073709551616 := by
    have := Int.mul_lt_mul_of_pos_right hlt pk_
    rw [Int.mul_comm (2 ^ n), psplit] at this; exact this
  have hHk0 : 0 ≤ H * 2 ^ (64 - n) := Int.mul_nonneg (by omega) (by omega)
  have hLn : 0 ≤ L / 2 ^ n ∧ L / 2 ^ n < 2 ^ (64 - n) := by
    refine ⟨Int.ediv_nonneg wi_.1 (by omega), ?_⟩
    rw [Int.ediv_lt_iff_lt_mul pn, psplit]; exact wi_.2
  have hor : bits .or .u64 (IntKind.u64.wrap (H * 2 ^ (64 - n))) (L / 2 ^ n) = H * 2 ^ (64 - n) + L / 2 ^ n := by
    rw [wu64 (by omega)]
    exact or_join64 _ _ (64 - n) hHk0 hHk hLn.1 hLn.2 (by omega) (Int.mul_emod_left _ _)
  have pi := p2_pos (64 * i)
  have hV : vl x = (H * 2 ^ (64 - n) + L / 2 ^ n) * 2 ^ (64 * i + n) + ((L % 2 ^ n) * 2 ^ (64 * i) + low) := by
    have d := Int.emod_add_mul_ediv L (2 ^ n)
    rw [hvi, show 64 * (i + 1) = (64 - n) + (64 * i + n) by omega, p2_add (64 - n), p2_add (64 * i) n, Int.add_mul, Int.mul_assoc H]
    have : L * 2 ^ (64 * i) = (L / 2 ^ n) * (2 ^ (64 * i) * 2 ^ n) + (L % 2 ^ n) * 2 ^ (64 * i) := by
      rw [Int.mul_comm (2 ^ (64 * i)) (2 ^ n), ← Int.mul_assoc, ← Int.add_mul]; congr 1; rw [Int.mul_comm (L / 2 ^ n)]; omega
    omega
  have hLm := Int.emod_nonneg L (show (2 : Int) ^ n ≠ 0 by omega)
  have hLm2 := Int.emod_lt_of_pos L pn
  have hR : 0 ≤ (L % 2 ^ n) * 2 ^ (64 * i) + low ∧ (L % 2 ^ n) * 2 ^ (64 * i) + low < 2 ^ (64 * i + n) := by
    have a := Int.mul_nonneg hLm (show (0 : Int) ≤ 2 ^ (64 * i) by omega)
    have c : (L % 2 ^ n + 1) * 2 ^ (64 * i) ≤ 2 ^ n * 2 ^ (64 * i) := Int.mul_le_mul_of_nonneg_right (by omega) (by omega)
    rw [Int.add_mul, ← p2_add, show n + 64 * i = 64 * i + n by omega] at c
    omega
  have pin := p2_pos (64 * i + n)
  have hdiv : vl x / 2 ^ (64 * i + n) = H * 2 ^ (64 - n) + L / 2 ^ n := by
    rw [hV, Int.add_comm, Int.add_mul_ediv_right _ _ (by omega), Int.ediv_eq_zero_of_lt hR.1 hR.2]; omega
  have hmod : vl x % 2 ^ (64 * i + n) = (L % 2 ^ n) * 2 ^ (64 * i) + low := by
    rw [hV, Int.add_comm, Int.add_mul_emod_self_right, Int.emod_eq_of_lt hR.1 hR.2]
  have hbig : 9223372036854775808 ≤ H * 2 ^ (64 - n) := by
    have := Int.mul_le_mul_of_nonneg_right hle (show (0 : Int) ≤ 2 ^ (64 - n) by omega)
    rw [← p2_add, show lg H + (64 - n) = 63 by omega] at this
    exact this
  have hmore : (decide (L % 2 ^ n ≠ 0) || decide (low ≠ 0)) = decide (vl x % 2 ^ (64 * i + n) ≠ 0) := by
    rw [hmod]
    have a := Int.mul_nonneg hLm (show (0 : Int) ≤ 2 ^ (64 * i) by omega)
    by_cases q : L % 2 ^ n = 0
    · rw [q]; simp
    · have : 0 < L % 2 ^ n * 2 ^ (64 * i) := Int.mul_pos (by omega) pi
      have t : decide ((L % 2 ^ n) * 2 ^ (64 * i) + low ≠ 0) = true := by simp; omega
      rw [t]; simp [q]
  have hpk := pk_coarse' f mode x.1 (-298) (vl x) (64 * i + n) (by rw [hdiv]; have := fmt_bd f; omega)
  rw [hdiv, ← hmore] at hpk
  have hexp : IntKind.i64.wrap (64 * ((i + 1 : Nat) : Int) - 298 - (64 - n)) = -298 + ((64 * i + n : Nat) : Int) := by rw [wi64 (by omega)]; omega
  rw [hor, hexp]
  have hsw : w64 (H * 2 ^ (64 - n) + L / 2 ^ n) := by
    refine ⟨by omega, ?_⟩
    have c : (H + 1) * 2 ^ (64 - n) ≤ 2 ^ n * 2 ^ (64 - n) := Int.mul_le_mul_of_nonneg_right (by omega) (by omega)
    rw [Int.add_mul, Int.mul_comm (2 ^ n), psplit] at c
    omega
  have hfin : ∀ (S : Int) (m : Bool), S = H * 2 ^ (64 - n) + L / 2 ^ n → m = decide (L % 2 ^ n ≠ 0) →
      ((lim st_986_1 ((f, (mode, (((i + 1 : Nat) : Int), (S, (-298 + ((64 * i + n : Nat) : Int), (m, ((0:Int), ()))))))), (((x.1, ()), x.2.1), (EXC0, ())))).bind fun r13 =>
        (F_92b r13.1.1 r13.1.2.1 r13.2.1.1.1 r13.1.2.2.2.1 r13.1.2.2.1 r13.1.2.2.2.2.1).bind fun r14 => some r14) = some (pk f mode x.1 (-298) (vl x) false) := by
    intro S m hS hm
    rw [hlow, hS, hm]
    simp only [Option.bind_some]
    rw [packr_eq f mode _ _ hsw]
    simp only [Option.bind_some]
    rw [show min (max (-298 + ((64 * i + n : Nat) : Int)) (-10000)) 10000 = -298 + ((64 * i + n : Nat) : Int) by omega, hpk]
  by_cases h64 : (n : Int) = 64
  · have : n = 64 := by omega
    subst this
    have c64 : (2 : Int) ^ 64 = 18446744073709551616 := rfl
    rw [if_pos h64, if_pos (by omega), if_pos (by omega), if_pos (by omega), if_pos (by omega), if_neg (by omega)]
    refine hfin _ _ ?_ ?_
    · rw [Int.ediv_eq_zero_of_lt wi_.1 (by have := wi_.2; omega)]; simp
    · rw [Int.emod_eq_of_lt wi_.1 (by have := wi_.2; omega)]; rw [Bool.eq_iff_iff]; simp
  · rw [if_neg h64, if_pos (by omega), if_pos (by omega), if_pos (by omega), if_pos (by omega)]
    refine hfin _ _ rfl ?_
    have e := mul_p2_mod' L (64 - n) 64 (by omega)
    rw [show 64 - (64 - n) = n by omega, show (2 : Int) ^ 64 = 18446744073709551616 from rfl] at e
    rw [wu64_eq, e, Bool.eq_iff_iff]
    have q := Int.mul_eq_zero (a := 2 ^ (64 - n)) (b := L % 2 ^ n)
    simp only [bne_iff_ne, decide_eq_true_eq]
    constructor
    · intro a b; apply a; rw [b]; simp
    · intro a b; rcases q.1 b with r | r
      · omega
      · exact a r
theorem vl10 (n : Bool) (a b c d e f g h i j : Int) : vl (n, [a, b, c, d, e, f, g, h, i, j], ()) = 0 + a * 2 ^ (64 * 0) + b * 2 ^ (64 * 1) + c * 2 ^ (64 * 2) + d * 2 ^ (64 * 3) + e * 2 ^ (64 * 4) + f * 2 ^ (64 * 5) + g * 2 ^ (64 * 6) + h * 2 ^ (64 * 7) + i * 2 ^ (64 * 8) + j * 2 ^ (64 * 9) := rfl
theorem two_sh (a b : Int) (i : Nat) : (a + b * 2 ^ 64) * 2 ^ (64 * i) = a * 2 ^ (64 * i) + b * 2 ^ (64 * (i + 1)) := by
  rw [Int.add_mul, Int.mul_assoc, ← p2_add, Nat.mul_add, Nat.mul_one, Nat.add_comm]
theorem wd10 (n : Bool) {a b c d e f g h i j : Int} (h0 : w64 a) (h1 : w64 b) (h2 : w64 c) (h3 : w64 d) (h4 : w64 e) (h5 : w64 f) (h6 : w64 g) (h7 : w64 h) (h8 : w64 i) (h9 : w64 j) : wd (n, [a, b, c, d, e, f, g, h, i, j], ()) := by
  refine ⟨rfl, fun k hk => ?_⟩
  match k, hk with
  | 0, _ => exact h0
  | 1, _ => exact h1
  | 2, _ => exact h2
  | 3, _ => exact h3
  | 4, _ => exact h4
  | 5, _ => exact h5
  | 6, _ => exact h6
  | 7, _ => exact h7
  | 8, _ => exact h8
  | 9, _ => exact h9
theorem w64_0 : w64 0 := ⟨by decide, by decide⟩
theorem set_two (n : Bool) (a b : Int) (ha : w64 a) (hb : w64 b) (i : Nat) (hi : i < 9) :
    wd (n, (List.set [(0:Int), 0, 0, 0, 0, 0, 0, 0, 0, 0] i a).set (i + 1) b, ()) ∧ vl (n, (List.set [(0:Int), 0, 0, 0, 0, 0, 0, 0, 0, 0] i a).set (i + 1) b, ()) = (a + b * 2 ^ 64) * 2 ^ (64 * i) := by
  have z := w64_0
  match i, hi with
  | 0, _ => exact ⟨wd10 n ha hb z z z z z z z z, (vl10 n a b 0 0 0 0 0 0 0 0).trans (by rw [two_sh]; simp only [Int.zero_mul, Int.zero_add, Int.add_zero])⟩
  | 1, _ => exact ⟨wd10 n z ha hb z z z z z z z, (vl10 n 0 a b 0 0 0 0 0 0 0).trans (by rw [two_sh]; simp only [Int.zero_mul, Int.zero_add, Int.add_zero])⟩
  | 2, _ => exact ⟨wd10 n z z ha hb z z z z z z, (vl10 n 0 0 a b 0 0 0 0 0 0).trans (by rw [two_sh]; simp only [Int.zero_mul, Int.zero_add, Int.add_zero])⟩
  | 3, _ => exact ⟨wd10 n z z z ha hb z z z z z, (vl10 n 0 0 0 a b 0 0 0 0 0).trans (by rw [two_sh]; simp only [Int.zero_mul, Int.zero_add, Int.add_zero])⟩
  | 4, _ => exact ⟨wd10 n z z z z ha hb z z z z, (vl10 n 0 0 0 0 a b 0 0 0 0).trans (by rw [two_sh]; simp only [Int.zero_mul, Int.zero_add, Int.add_zero])⟩
  | 5, _ => exact ⟨wd10 n z z z z z ha hb z z z, (vl10 n 0 0 0 0 0 a b 0 0 0).trans (by rw [two_sh]; simp only [Int.zero_mul, Int.zero_add, Int.add_zero])⟩
  | 6, _ => exact ⟨wd10 n z z z z z z ha hb z z, (vl10 n 0 0 0 0 0 0 a b 0 0).trans (by rw [two_sh]; simp only [Int.zero_mul, Int.zero_add, Int.add_zero])⟩
  | 7, _ => exact ⟨wd10 n z z z z z z z ha hb z, (vl10 n 0 0 0 0 0 0 0 a b 0).trans (by rw [two_sh]; simp only [Int.zero_mul, Int.zero_add, Int.add_zero])⟩
  | 8, _ => exact ⟨wd10 n z z z z z z z z ha hb, (vl10 n 0 0 0 0 0 0 0 0 a b).trans (by rw [two_sh]; simp only [Int.zero_mul, Int.zero_add, Int.add_zero])⟩
theorem set_one (n : Bool) (a : Int) (ha : w64 a) (i : Nat) (hi : i < 9) :
    wd (n, List.set [(0:Int), 0, 0, 0, 0, 0, 0, 0, 0, 0] i a, ()) ∧ vl (n, List.set [(0:Int), 0, 0, 0, 0, 0, 0, 0, 0, 0] i a, ()) = a * 2 ^ (64 * i) := by
  have := set_two n a 0 ha w64_0 i hi
  have e : (List.set [(0:Int), 0, 0, 0, 0, 0, 0, 0, 0, 0] i a).set (i + 1) 0 = List.set [(0:Int), 0, 0, 0, 0, 0, 0, 0, 0, 0] i a := by
    match i, hi with
    | 0, _ => rfl
    | 1, _ => rfl
    | 2, _ => rfl
    | 3, _ => rfl
    | 4, _ => rfl
    | 5, _ => rfl
    | 6, _ => rfl
    | 7, _ => rfl
    | 8, _ => rfl
  rw [e] at this
  exact ⟨this.1, by rw [this.2]; simp⟩
theorem spread_eq (n : Bool) {e N : Int} (he : -298 ≤ e ∧ e ≤ 260) (hN : w64 N) : ∃ L, F_971 n e N = some (n, L, ()) ∧ wd (n, L, ()) ∧ vl (n, L, ()) = N * 2 ^ (e + 298).toNat := by
  have c64 : (2 : Int) ^ 64 = 18446744073709551616 := rfl
  unfold F_971
  dsimp only
  rw [wi64 (n := e + 298) (by omega), tdiv_nn (by omega), tmod_nn (by omega)]
  generalize ht : e + 298 = t at *
  obtain ⟨i, hi⟩ : ∃ i : Nat, t / 64 = i := ⟨(t / 64).toNat, by omega⟩
  obtain ⟨s, hs⟩ : ∃ s : Nat, t % 64 = s := ⟨(t % 64).toNat, by omega⟩
  rw [hi, hs, wi64 (n := (i : Int)) (by omega), wi64 (n := (i : Int) + 1) (by omega), wi64 (n := 64 - (s : Int)) (by omega)]
  have e1 : ((1:Nat) + ((Int.toNat (i : Int)) * (1:Nat))) - 1 = i := by omega
  have e2 : ((1:Nat) + ((Int.toNat ((i : Int) + 1)) * (1:Nat))) - 1 = i + 1 := by omega
  have m1 : min (Int.toNat (s : Int)) 64 = s := by omega
  have m2 : min (Int.toNat (64 - (s : Int))) 64 = 64 - s := by omega
  have hT : t.toNat = s + 64 * i := by omega
  have ps := p2_pos s
  have a1 : w64 (IntKind.u64.wrap (N * 2 ^ s)) := by rw [wu64_eq]; exact ⟨by omega, by omega⟩
  have a2 : w64 (N / 2 ^ (64 - s)) := ⟨Int.ediv_nonneg hN.1 (by have := p2_pos (64 - s); omega), by
    have := Int.ediv_le_self (b := 2 ^ (64 - s)) hN.1; have := hN.2; omega⟩
  have s2 := set_two n (IntKind.u64.wrap (N * 2 ^ s)) (N / 2 ^ (64 - s)) a1 a2 i (by omega)
  have s1 := set_one n (IntKind.u64.wrap (N * 2 ^ s)) a1 i (by omega)
  have l1 : (List.set [(0:Int), 0, 0, 0, 0, 0, 0, 0, 0, 0] i (IntKind.u64.wrap (N * 2 ^ s))).length = 10 := s1.1.1
  have l2 : ((List.set [(0:Int), 0, 0, 0, 0, 0, 0, 0, 0, 0] i (IntKind.u64.wrap (N * 2 ^ s))).set (i + 1) (N / 2 ^ (64 - s))).length = 10 := s2.1.1
  simp only [e1, e2, m1, m2, len10 l1, len10 l2, l1, l2, bif_dec]
  rw [if_pos (by omega), if_pos (by omega), if_pos (by omega)]
  by_cases h0 : (s : Int) > 0
  · rw [if_pos h0, if_pos (by omega), if_pos (by omega), if_pos (by omega), if_pos (by omega), if_pos (by decide)]
    refine ⟨_, rfl, s2.1, ?_⟩
    rw [s2.2, hT, p2_add, ← Int.mul_assoc]
    congr 1
    rw [wu64_eq, c64]
    have d := Int.emod_add_mul_ediv (N * 2 ^ s) 18446744073709551616
    have q : N * 2 ^ s / 18446744073709551616 = N / 2 ^ (64 - s) := by
      rw [← c64, mul_p2_div' _ _ _ (by omega)]
    rw [q] at d; omega
  · rw [if_neg h0, if_pos (by decide)]
    refine ⟨_, rfl, s1.1, ?_⟩
    have : s = 0 := by omega
    subst this
    rw [s1.2, hT, p2_add, ← Int.mul_assoc]
    congr 1
    rw [wu64_eq]; have := hN.1; have := hN.2; simp; omega
theorem total_eq (f mode : Int) {x y : WdT} (hx : wd x) (hy : wd y) (hov : vl x + vl y < 2 ^ 640) : F_970 f mode x y = some (totS f mode (sv x.1 (vl x) + sv y.1 (vl y))) := by
  obtain ⟨r, hr, wr, hv⟩ := plus_eq hx hy hov
  unfold F_970
  simp only [len10 hx.1, len10 hy.1]
  rw [show (x.1, x.2.1, ()) = x from rfl, show (y.1, y.2.1, ()) = y from rfl, hr]
  simp only [Option.bind_some, len10 wr.1]
  have bd := vl_bd wr
  have hz := vf_zero (n := 10) wr.2
  have hn : ((r.2.1.getD 0 0 == 0) && ((r.2.1.getD 1 0 == 0) && ((r.2.1.getD 2 0 == 0) && ((r.2.1.getD 3 0 == 0) && ((r.2.1.getD 4 0 == 0) && ((r.2.1.getD 5 0 == 0) && ((r.2.1.getD 6 0 == 0) && ((r.2.1.getD 7 0 == 0) && ((r.2.1.getD 8 0 == 0) && ((r.2.1.getD 9 0 == 0) && true)))))))))) = decide (vl r = 0) := by
    rw [Bool.eq_iff_iff, decide_eq_true_eq]
    unfold vl
    rw [hz]
    simp only [Bool.and_eq_true, beq_iff_eq, and_true]
    constructor
    · rintro ⟨h0, h1, h2, h3, h4, h5, h6, h7, h8, h9⟩ k hk
      match k, hk with
      | 0, _ => exact h0
      | 1, _ => exact h1
      | 2, _ => exact h2
      | 3, _ => exact h3
      | 4, _ => exact h4
      | 5, _ => exact h5
      | 6, _ => exact h6
      | 7, _ => exact h7
      | 8, _ => exact h8
      | 9, _ => exact h9
    · intro h
      exact ⟨h 0 (by omega), h 1 (by omega), h 2 (by omega), h 3 (by omega), h 4 (by omega), h 5 (by omega), h 6 (by omega), h 7 (by omega), h 8 (by omega), h 9 (by omega)⟩
  rw [hn, ← hv]
  unfold totS
  by_cases h0 : vl r = 0
  · rw [decide_eq_true h0]
    have : sv r.1 (vl r) = 0 := by rw [h0]; unfold sv; simp
    rw [this, if_pos rfl, zeror_w]; rfl
  · rw [decide_eq_false h0]
    simp only [cond_false]
    rw [show (r.1, r.2.1, ()) = r from rfl, rounded_eq f mode wr h0]
    simp only [Option.bind_some]
    have hne : sv r.1 (vl r) ≠ 0 := by unfold sv; split <;> omega
    rw [if_neg hne]
    have hs : r.1 = decide (sv r.1 (vl r) < 0) := by
      unfold sv; cases r.1 <;> simp <;> omega
    have ha : (if sv r.1 (vl r) < 0 then -sv r.1 (vl r) else sv r.1 (vl r)) = vl r := by
      unfold sv; cases r.1 <;> simp <;> omega
    rw [ha, ← hs]
end Go.Proofs.YtkmkhcmfpbffjaaGreat.VI
