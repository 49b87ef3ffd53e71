import Derived.Test.YtkknnloamidaiaaT65e011db
import Derived.Test.YtkknnloamidaiaaRows
import Derived.WalkKit
import Derived.ProofKit
namespace Go.Proofs.Ytkknnloamidaiaa.VI
set_option linter.unusedVariables false
set_option linter.unusedSimpArgs false
set_option maxRecDepth 100000
set_option maxHeartbeats 8000000
set_option exponentiation.threshold 2000
theorem div_near {a b : Int} (fa : fnt a) (b0 : 0 ≤ b) (b1 : b < 2139095040) (hb : 0 < mv b) (hab : mv a ≤ mv b) (he : zr 2 a = false → -290 ≤ xp 2 a - (61 - lg (sig 2 a)) - xp 2 b) :
    ∃ s, divf a b = s ∧ fnt s ∧ -(mv a * 2 ^ 149 + 8388608 * mv b) ≤ (vz s * mv b - vz a * 2 ^ 149) * 8388608 ∧ (vz s * mv b - vz a * 2 ^ 149) * 8388608 ≤ mv a * 2 ^ 149 + 8388608 * mv b
      ∧ (0 ≤ vz a → 0 ≤ vz s) ∧ (vz a < 0 → mv b ≤ mv a * 2 ^ 149 → vz s < 0) := by
  have P : (0 : Int) < 2 ^ 149 := p2_pos 149
  obtain ⟨fb, vb⟩ := code_fnt b0 b1
  have sb : sg 2 b = false := by rw [sgd fb.1]; simp; omega
  have zb : zr 2 b = false := by
    unfold zr; apply decide_eq_false; rw [show TT 2 = 2147483648 from rfl]
    intro k
    have : b = 0 := by omega
    rw [this, mv_zero] at hb; omega
  have mA := mv_nn a
  by_cases za : zr 2 a = true
  · have s0 : sig 2 a = 0 := (sig_zero 2 a (fin_nan fa) (fin_inf fa)).2 za
    have m0 : mv a = 0 := by unfold mv; rw [s0, Int.zero_mul]
    have v0 : vz a = 0 := by unfold vz; rw [m0]; unfold sv; split <;> rfl
    have e : divf a b = sgn 2 (!(sg 2 a == sg 2 b)) := by
      unfold divf divS
      rw [fin_nan fa, fin_nan fb, fin_inf fa, fin_inf fb, za, zb]
      rfl
    have w0 : vz (sgn 2 (!(sg 2 a == sg 2 b))) = 0 := by cases (!(sg 2 a == sg 2 b)) <;> decide
    refine ⟨_, e, ⟨by cases (!(sg 2 a == sg 2 b)) <;> exact ⟨by decide, by decide⟩, by cases (!(sg 2 a == sg 2 b)) <;> decide⟩, ?_, ?_, ?_, ?_⟩
    · rw [w0, v0, m0]; omega
    · rw [w0, v0, m0]; omega
    · intro _; rw [w0]; omega
    · intro k; omega
  · rw [Bool.not_eq_true] at za
    obtain ⟨M, M0, M1, hM, up, dn⟩ := div_mag fa fb za zb (he za)
    have hn : 0 ≤ mv a * 2 ^ 149 := Int.mul_nonneg mA (Int.le_of_lt P)
    have fin : mv a * 2 ^ 149 ≤ mv 2139095038 * mv b := by
      have k1 := Int.mul_le_mul_of_nonneg_right hab (Int.le_of_lt P)
      have k2 := Int.mul_le_mul_of_nonneg_left (show (2 : Int) ^ 149 ≤ mv 2139095038 by decide +kernel) (Int.le_of_lt hb)
      rw [Int.mul_comm (mv 2139095038)]
      omega
    have mf := mag_fin fin up
    have near := mag_near hb hn M0 mf up dn
    rw [sb] at hM
    by_cases k : a < 2147483648
    · have sa : sg 2 a = false := by rw [sgd fa.1]; simp; omega
      rw [sa] at hM
      have e0 : divf a b = M := by rw [hM]; show 0 + M = M; omega
      obtain ⟨fM, vM⟩ := code_fnt M0 (show M < 2139095040 by omega)
      have va := vz_pos fa.1 k
      have mM := mv_nn M
      refine ⟨M, e0, fM, ?_, ?_, ?_, ?_⟩
      · rw [vM, va]; exact near.1
      · rw [vM, va]; exact near.2
      · intro _; rw [vM]; exact mM
      · intro h; rw [va] at h; omega
    · have sa : sg 2 a = true := by rw [sgd fa.1]; simp; omega
      rw [sa] at hM
      have e0 : divf a b = M + 2147483648 := by rw [hM]; show 2147483648 + M = _; omega
      have w : w32 (M + 2147483648) := ⟨by omega, by omega⟩
      have vM := vz_neg w (by omega)
      rw [show M + 2147483648 - 2147483648 = M by omega] at vM
      have va : vz a = -mv a := by unfold vz; rw [sa]; rfl
      refine ⟨_, e0, ⟨w, by omega⟩, ?_, ?_, ?_, ?_⟩
      · rw [vM, va, Int.neg_mul, Int.neg_mul]; omega
      · rw [vM, va, Int.neg_mul, Int.neg_mul]; omega
      · intro h
        rw [va] at h
        have : mv a = 0 := by omega
        exfalso
        have s0 : sig 2 a = 0 := by
          unfold mv at this
          rcases Int.mul_eq_zero.1 this with e | e
          · exact e
          · have := p2_pos (xp 2 a + 149).toNat; omega
        have := (sig_zero 2 a (fin_nan fa) (fin_inf fa)).1 s0
        rw [za] at this; cases this
      · intro _ h
        have := dn 1 (by decide) (by decide) (by rw [show mv 1 = 1 by decide, Int.one_mul]; exact h)
        have h1 := mv_le (show (0 : Int) ≤ 1 by decide) this (by omega)
        rw [show mv 1 = 1 by decide] at h1
        rw [vM]; omega
end Go.Proofs.Ytkknnloamidaiaa.VI

namespace Go.Proofs.Ytkknnloamidaiaa.VI
set_option linter.unusedVariables false
set_option linter.unusedSimpArgs false
set_option maxRecDepth 100000
set_option maxHeartbeats 8000000
set_option exponentiation.threshold 2000
def pev : List Rat → Rat → Rat
  | [], _ => 0
  | c :: p, x => c + x * pev p x
def padd : List Rat → List Rat → List Rat
  | [], q => q
  | p, [] => p
  | a :: p, b :: q => (a + b) :: padd p q
def psm (a : Rat) : List Rat → List Rat
  | [] => []
  | c :: p => a * c :: psm a p
def pmul : List Rat → List Rat → List Rat
  | [], _ => []
  | a :: p, q => padd (psm a q) (0 :: pmul p q)
def pcomp : List Rat → List Rat → List Rat
  | [], _ => []
  | c :: p, y => padd [c] (pmul y (pcomp p y))
theorem pev_add : ∀ (p q : List Rat) (x : Rat), pev (padd p q) x = pev p x + pev q x
  | [], q, x => by simp [padd, pev, Rat.zero_add]
  | a :: p, [], x => by simp [padd, pev, Rat.add_zero]
  | a :: p, b :: q, x => by simp only [padd, pev]; rw [pev_add p q x]; grind
theorem pev_sm (a : Rat) : ∀ (p : List Rat) (x : Rat), pev (psm a p) x = a * pev p x
  | [], x => by simp [psm, pev, Rat.mul_zero]
  | c :: p, x => by simp only [psm, pev]; rw [pev_sm a p x]; grind
theorem pev_mul : ∀ (p q : List Rat) (x : Rat), pev (pmul p q) x = pev p x * pev q x
  | [], q, x => by simp [pmul, pev, Rat.zero_mul]
  | a :: p, q, x => by simp only [pmul, pev]; rw [pev_add, pev_sm, pev, pev_mul p q x]; grind
theorem pev_comp : ∀ (p y : List Rat) (x : Rat), pev (pcomp p y) x = pev p (pev y x)
  | [], y, x => rfl
  | c :: p, y, x => by simp only [pcomp, pev]; rw [pev_add, pev_mul, pev_comp p y x]; simp only [pev]; grind
def rab (c : Rat) : Rat := if c < 0 then -c else c
def sbd : List Rat → Rat → Rat
  | [], _ => 0
  | c :: p, S => rab c + S * sbd p S
theorem rab_le (c : Rat) : -rab c ≤ c ∧ c ≤ rab c ∧ 0 ≤ rab c := by unfold rab; split <;> grind
theorem abs_rmul {a b A B : Rat} (h1 : -A ≤ a) (h2 : a ≤ A) (h3 : -B ≤ b) (h4 : b ≤ B) : -(A * B) ≤ a * b ∧ a * b ≤ A * B := by
  have k1 := Rat.mul_nonneg (show 0 ≤ A - a by grind) (show 0 ≤ B + b by grind)
  have k2 := Rat.mul_nonneg (show 0 ≤ A + a by grind) (show 0 ≤ B - b by grind)
  have k3 := Rat.mul_nonneg (show 0 ≤ A - a by grind) (show 0 ≤ B - b by grind)
  have k4 := Rat.mul_nonneg (show 0 ≤ A + a by grind) (show 0 ≤ B + b by grind)
  constructor <;> grind
theorem pev_bd {S x : Rat} (h1 : -S ≤ x) (h2 : x ≤ S) : ∀ p : List Rat, -sbd p S ≤ pev p x ∧ pev p x ≤ sbd p S
  | [] => by simp [pev, sbd]
  | c :: p => by
    obtain ⟨a, b⟩ := pev_bd h1 h2 p
    obtain ⟨r1, r2, _⟩ := rab_le c
    have k := abs_rmul h1 h2 a b
    simp only [pev, sbd]
    constructor <;> grind
def cC : Rat := 3048493539143 / 4398046511104
def pY : List Rat := [0, 2, 0, 11184811 / 16777216, 0, 13421773 / 33554432, 0, 9586981 / 33554432, 0, 14913081 / 67108864]
def pE : List Rat := [1, 1, 1 / 2, 11184811 / 67108864, 11184811 / 268435456, 8947849 / 1073741824, 11930465 / 8589934592]
theorem case0 {s : Rat} (h1 : -(1717 / 10000) ≤ s) (h2 : s ≤ 1717 / 10000) :
    -(14 / 100000000) ≤ pev pE (pev pY s) * (1 - s) - (1 + s) ∧ pev pE (pev pY s) * (1 - s) - (1 + s) ≤ 14 / 100000000 := by
  have k := pev_bd h1 h2 (padd (pmul (pcomp pE pY) [1, -1]) [-1, -1])
  rw [pev_add, pev_mul, pev_comp] at k
  have b : sbd (padd (pmul (pcomp pE pY) [1, -1]) [-1, -1]) (1717 / 10000) ≤ 14 / 100000000 := by decide +kernel
  generalize sbd _ _ = z at *
  simp only [pev] at k
  have e1 : (1 : Rat) + s * (-1 + s * 0) = 1 - s := by grind
  have e2 : (-1 : Rat) + s * (-1 + s * 0) = -(1 + s) := by grind
  generalize pev pE _ = w at *
  rw [e1, e2] at k
  constructor <;> grind
theorem case1 {h s : Rat} (hs : s = 3 / 20 + h) (h1 : -(23 / 1000) ≤ h) (h2 : h ≤ 23 / 1000) :
    -(11 / 10000000) ≤ 2 * pev pE (pev pY s - cC) * (1 - s) - (1 + s) ∧ 2 * pev pE (pev pY s - cC) * (1 - s) - (1 + s) ≤ 11 / 10000000 := by
  have k := pev_bd h1 h2 (padd (pmul (psm 2 (pcomp pE (padd [-cC] (pcomp pY [3 / 20, 1])))) [1 - 3 / 20, -1]) [-(1 + 3 / 20), -1])
  rw [pev_add, pev_mul, pev_sm, pev_comp, pev_add, pev_comp] at k
  have b : sbd (padd (pmul (psm 2 (pcomp pE (padd [-cC] (pcomp pY [3 / 20, 1])))) [1 - 3 / 20, -1]) [-(1 + 3 / 20), -1]) (23 / 1000) ≤ 11 / 10000000 := by decide +kernel
  generalize sbd _ _ = z at *
  have e0 : pev [3 / 20, 1] h = s := by simp only [pev]; grind
  have e3 : pev [-cC] h = -cC := by simp only [pev]; grind
  rw [e0, e3] at k
  have e4 : -cC + pev pY s = pev pY s - cC := by grind
  rw [e4] at k
  have e1 : pev [1 - 3 / 20, -1] h = 1 - s := by simp only [pev]; grind
  have e2 : pev [-(1 + 3 / 20), -1] h = -(1 + s) := by simp only [pev]; grind
  rw [e1, e2] at k
  generalize pev pE _ = w at *
  constructor <;> grind
theorem case2 {h s : Rat} (hs : s = -(3 / 20) + h) (h1 : -(23 / 1000) ≤ h) (h2 : h ≤ 23 / 1000) :
    -(4 / 10000000) ≤ 1 / 2 * pev pE (pev pY s + cC) * (1 - s) - (1 + s) ∧ 1 / 2 * pev pE (pev pY s + cC) * (1 - s) - (1 + s) ≤ 4 / 10000000 := by
  have k := pev_bd h1 h2 (padd (pmul (psm (1 / 2) (pcomp pE (padd [cC] (pcomp pY [-(3 / 20), 1])))) [1 + 3 / 20, -1]) [-(1 - 3 / 20), -1])
  rw [pev_add, pev_mul, pev_sm, pev_comp, pev_add, pev_comp] at k
  have b : sbd (padd (pmul (psm (1 / 2) (pcomp pE (padd [cC] (pcomp pY [-(3 / 20), 1])))) [1 + 3 / 20, -1]) [-(1 - 3 / 20), -1]) (23 / 1000) ≤ 4 / 10000000 := by decide +kernel
  generalize sbd _ _ = z at *
  have e0 : pev [-(3 / 20), 1] h = s := by simp only [pev]; grind
  have e3 : pev [cC] h = cC := by simp only [pev]; grind
  rw [e0, e3] at k
  have e4 : cC + pev pY s = pev pY s + cC := by grind
  rw [e4] at k
  have e1 : pev [1 + 3 / 20, -1] h = 1 - s := by simp only [pev]; grind
  have e2 : pev [-(1 - 3 / 20), -1] h = -(1 + s) := by simp only [pev]; grind
  rw [e1, e2] at k
  generalize pev pE _ = w at *
  constructor <;> grind
end Go.Proofs.Ytkknnloamidaiaa.VI

namespace Go.Proofs.Ytkknnloamidaiaa.VI
set_option linter.unusedVariables false
set_option linter.unusedSimpArgs false
set_option maxRecDepth 100000
set_option maxHeartbeats 8000000
theorem nan2 {x : Int} : nan 2 x = true ↔ 2139095040 < x % 2147483648 := by
  unfold nan; rw [decide_eq_true_iff]; rfl
theorem zr2 {x : Int} : zr 2 x = true ↔ x % 2147483648 = 0 := by
  unfold zr; rw [decide_eq_true_iff]; rfl
theorem sgg2 {x : Int} : sg 2 x = true ↔ x / 2147483648 % 2 = 1 := by
  unfold sg; rw [decide_eq_true_iff]; rfl
theorem lt_pos {a b : Int} (ha : 0 ≤ a) (hb : b ≤ 2139095040) (h : a < b) : lt 2 a b = true := by
  rw [lt_iff]
  refine ⟨?_, ?_, ?_, ?_⟩
  · rw [Bool.eq_false_iff, ne_eq, nan2]; omega
  · rw [Bool.eq_false_iff, ne_eq, nan2]; omega
  · rw [zr2, zr2]; omega
  · have e1 : sg 2 a = false := by rw [Bool.eq_false_iff, ne_eq, sgg2]; omega
    have e2 : sg 2 b = false := by rw [Bool.eq_false_iff, ne_eq, sgg2]; omega
    unfold ky
    rw [e1, e2]
    show a % 2147483648 < b % 2147483648
    omega
end Go.Proofs.Ytkknnloamidaiaa.VI

namespace Go.Proofs.Ytkknnloamidaiaa.VI
set_option linter.unusedVariables false
set_option linter.unusedSimpArgs false
set_option maxRecDepth 100000
set_option maxHeartbeats 8000000
set_option exponentiation.threshold 2000
theorem mv_one : mv 1065353216 = 2 ^ 149 := by decide +kernel
theorem mv_two : mv 1073741824 = 2 ^ 150 := by decide +kernel
end Go.Proofs.Ytkknnloamidaiaa.VI

namespace Go.Proofs.Ytkknnloamidaiaa.VI
set_option linter.unusedVariables false
set_option linter.unusedSimpArgs false
set_option maxRecDepth 100000
set_option maxHeartbeats 8000000
set_option exponentiation.threshold 2000
theorem q_le {a b : Int} (h : vz a ≤ vz b) : q a ≤ q b := Rat.mul_le_mul_of_nonneg_right (cast_le h) (by have := uu_pos; grind)
theorem le_q {a b : Int} (h : q a ≤ q b) : vz a ≤ vz b := by
  apply Int.le_of_not_gt; intro k
  have k2 : vz b + 1 ≤ vz a := k
  have := Rat.mul_le_mul_of_nonneg_right (cast_le k2) (show 0 ≤ uu by have := uu_pos; grind)
  rw [Rat.intCast_add] at this
  unfold q at h
  have hu := uu_pos
  have e : ((1 : Int) : Rat) = 1 := by decide +kernel
  rw [e] at this
  grind
theorem uu_sm : uu ≤ 1 / 1000000000000 := by decide +kernel
theorem q_code {c : Int} (h0 : 0 ≤ c) (h1 : c < 2139095040) {a b : Int} (ha : 0 ≤ a) (hb : b < 2139095040) (h2 : a ≤ c) (h3 : c ≤ b) : q a ≤ q c ∧ q c ≤ q b := by
  have fa := code_fnt ha (by omega)
  have fb := code_fnt (show 0 ≤ b by omega) hb
  have fc := code_fnt h0 h1
  exact ⟨q_le (by rw [fa.2, fc.2]; exact mv_le ha h2 h1), q_le (by rw [fb.2, fc.2]; exact mv_le h0 h3 hb)⟩
theorem log_td {m : Int} (h0 : 1060439284 ≤ m) (h1 : m ≤ 1068827891) :
    ∃ t d, subf m 1065353216 = t ∧ addf 1073741824 t = d ∧ fnt t ∧ 0 ≤ d ∧ d ≤ 1077936128 ∧ mv t ≤ mv d ∧ 2 ^ 149 ≤ mv d ∧ fnt m
      ∧ 707106 / 1000000 ≤ q m ∧ q m ≤ 1414214 / 1000000
      ∧ nq (q t) (q m - 1) (5 / 100000000) ∧ nq (q d) (2 + q t) (31 / 100000000) ∧ (m < 1065353216 → vz t ≤ -(2 ^ 125)) ∧ (1065353216 ≤ m → 0 ≤ vz t) := by
  have hu := uu_sm
  have hu0 := uu_pos
  obtain ⟨fm, vm⟩ := code_fnt (show 0 ≤ m by omega) (show m < 2139095040 by omega)
  have fO : fnt 1065353216 := fnt_lit (by decide)
  have qO : q 1065353216 = 1 := by decide +kernel
  obtain ⟨m1, m2⟩ := q_code (c := m) (a := 1060439284) (b := 1068827891) (by omega) (by omega) (by decide) (by decide) h0 h1
  have c1 : 707106 / 1000000 ≤ q 1060439284 := by decide +kernel
  have c2 : q 1068827891 ≤ 1414214 / 1000000 := by decide +kernel
  have T := subf_q (B := 4143 / 10000) fm fO (by grind) (by rw [qO]; grind) (by rw [qO]; grind)
  rw [qO] at T
  have t1 : m < 1065353216 → vz (subf m 1065353216) ≤ -(2 ^ 125) := by
    intro k
    have v1 : vz 3011510272 = -(2 ^ 125) := by decide +kernel
    have v2 : vz 3212836864 = -(2 ^ 149) := by decide +kernel
    have v3 : vz 1065353216 = 2 ^ 149 := by decide +kernel
    have := mv_le (show 0 ≤ m by omega) (show m ≤ 1065353215 by omega) (by decide)
    have v4 : mv 1065353215 = 2 ^ 149 - 2 ^ 125 := by decide +kernel
    have mm := mv_nn m
    have := subf_in fm fO (lo := 3212836864) (hi := 3011510272) (fnt_lit (by decide)) (fnt_lit (by decide)) (by rw [v2, v3, vm]; omega) (by rw [v1, v3, vm]; omega)
    rw [v1] at this; exact this.2.2
  have t2 : 1065353216 ≤ m → 0 ≤ vz (subf m 1065353216) := by
    intro k
    have v0 : vz 0 = 0 := by decide
    have v3 : vz 1065353216 = 2 ^ 149 := by decide +kernel
    have v5 : vz 1073741824 = 2 ^ 150 := by decide +kernel
    have := mv_le (show (0 : Int) ≤ 1065353216 by decide) k (by omega)
    rw [mv_one] at this
    have k2 := mv_le (show 0 ≤ m by omega) (show m ≤ 1073741824 by omega) (by decide)
    rw [mv_two] at k2
    have := subf_in fm fO (lo := 0) (hi := 1073741824) (fnt_lit (by decide)) (fnt_lit (by decide)) (by rw [v0, v3, vm]; omega) (by rw [v5, v3, vm]; omega)
    rw [v0] at this; exact this.2.1
  generalize subf m 1065353216 = t at *
  have fT : fnt 1073741824 := fnt_lit (by decide)
  have qT : q 1073741824 = 2 := by decide +kernel
  obtain ⟨ft, nt1, nt2⟩ := T
  have D := addf_q (B := 25 / 10) fT ft (by grind) (by rw [qT]; grind) (by rw [qT]; grind)
  rw [qT] at D
  have q15 : q 1069547520 = 15 / 10 := by decide +kernel
  have q3 : q 1077936128 = 3 := by decide +kernel
  have v15 : vz 1069547520 = 3 * 2 ^ 148 := by decide +kernel
  have v3 : vz 1077936128 = 3 * 2 ^ 149 := by decide +kernel
  have vT : vz 1073741824 = 2 ^ 150 := by decide +kernel
  have r1 : vz 3204448256 ≤ vz t := le_q (by rw [show q 3204448256 = -(1 / 2) by decide +kernel]; grind)
  have r2 : vz t ≤ vz 1056964608 := le_q (by rw [show q 1056964608 = 1 / 2 by decide +kernel]; grind)
  rw [show vz 3204448256 = -(2 ^ 148) by decide +kernel] at r1
  rw [show vz 1056964608 = 2 ^ 148 by decide +kernel] at r2
  have dI := addf_in fT ft (lo := 1069547520) (hi := 1077936128) (fnt_lit (by decide)) (fnt_lit (by decide)) (by rw [v15, vT]; omega) (by rw [v3, vT]; omega)
  generalize hd : addf 1073741824 t = d at *
  obtain ⟨fd, nd1, nd2⟩ := D
  obtain ⟨_, dI1, dI2⟩ := dI
  rw [v15] at dI1
  rw [v3] at dI2
  have d0 := fd.1.1
  have dpos : d < 2147483648 := by
    apply Int.lt_of_not_ge; intro k
    have := vz_neg fd.1 k
    have := mv_nn (d - 2147483648); omega
  have d1 : d < 2139095040 := by have := fd.2; omega
  have vd := vz_pos fd.1 dpos
  have hmt : mv t ≤ 2 ^ 148 := by
    unfold vz sv at r1 r2
    cases hs : sg 2 t <;> rw [hs] at r1 r2 <;> simp at r1 r2 <;> omega
  refine ⟨t, d, rfl, hd, ft, d0, ?_, by omega, by omega, fm, by grind, by grind, ⟨by grind, by grind⟩, ⟨by grind, by grind⟩, t1, t2⟩
  apply mv_code_le d0 (by decide) (by decide) d1
  rw [← vd, show mv 1077936128 = 3 * 2 ^ 149 by decide +kernel]; exact dI2
theorem xp_le {d : Int} (h0 : 0 ≤ d) (h1 : d ≤ 1077936128) : xp 2 d ≤ 0 := by
  obtain ⟨a1, a2, a3, a4, a5, a6⟩ := code_parts h0 (by omega)
  omega
theorem q_mv {d : Int} (h0 : 0 ≤ d) (h1 : d < 2139095040) : (mv d : Rat) * uu = q d := by
  unfold q; rw [(code_fnt h0 h1).2]
theorem q_abs (a : Int) (h : -1 ≤ q a ∧ q a ≤ 1) : (mv a : Rat) * uu ≤ 1 ∧ ((mv a : Rat) * uu = q a ∨ (mv a : Rat) * uu = -q a) := by
  have e : (mv a : Rat) * uu = q a ∨ (mv a : Rat) * uu = -q a := by
    unfold q vz sv
    split
    · right; rw [Rat.intCast_neg]; grind
    · left; rfl
  exact ⟨by rcases e with e | e <;> rw [e] <;> grind, e⟩
theorem log_s {m : Int} (h0 : 1060439284 ≤ m) (h1 : m ≤ 1068827891) :
    ∃ s, logT m = s ∧ fnt s ∧ -(1717 / 10000) ≤ q s ∧ q s ≤ 1717 / 10000
      ∧ nq (q m * (1 - q s)) (1 + q s) (23 / 100000000) ∧ 707106 / 1000000 ≤ q m ∧ q m ≤ 1414214 / 1000000 ∧ (m < 1065353216 → vz s < 0) ∧ (1065353216 ≤ m → 0 ≤ vz s) := by
  have hu := uu_sm
  have hu0 := uu_pos
  obtain ⟨t, d, ht, hd, ft, d0, d1, htd, hdp, fm, m1, m2, ⟨t1, t2⟩, ⟨dd1, dd2⟩, sg1, sg2⟩ := log_td h0 h1
  have P125 : (0 : Int) < 2 ^ 125 := p2_pos 125
  have P149 : (0 : Int) < 2 ^ 149 := p2_pos 149
  have xd := xp_le d0 d1
  have xt := xp_bd 2 t
  obtain ⟨s, hs, fs, n1, n2, p1, p2⟩ := div_near ft d0 (by omega) (by omega) htd (fun hz => by omega)
  have hT : logT m = s := by unfold logT; rw [ht, hd, hs]
  have a := q_abs t ⟨by grind, by grind⟩
  have qd := q_mv d0 (show d < 2139095040 by omega)
  have c1 := cast_le n1
  have c2 := cast_le n2
  simp only [Rat.intCast_neg, Rat.intCast_add, Rat.intCast_mul, Rat.intCast_sub] at c1 c2
  have huu : 0 ≤ uu * uu := Rat.mul_nonneg (by grind) (by grind)
  have k1 := Rat.mul_le_mul_of_nonneg_right c1 huu
  have k2 := Rat.mul_le_mul_of_nonneg_right c2 huu
  have hTT := uu_T
  have e8 : ((8388608 : Int) : Rat) = 8388608 := by decide +kernel
  rw [e8] at k1 k2
  have at1 : (mv t : Rat) * uu ≤ 415 / 1000 := by rcases a.2 with e | e <;> rw [e] <;> grind
  have qs : q s = (vz s : Rat) * uu := rfl
  have qt : q t = (vz t : Rat) * uu := rfl
  have key : nq (q s * q d) (q t) (6 / 100000000) := by
    generalize ((2 ^ 149 : Int) : Rat) = T at *
    generalize (mv t : Rat) = mt at *
    generalize (mv d : Rat) = md at *
    generalize (vz s : Rat) = vs at *
    generalize (vz t : Rat) = vt at *
    have f1 : (vs * md - vt * T) * 8388608 * (uu * uu) = (q s * q d - q t) * 8388608 := by rw [qs, qt, ← qd]; grind
    have f2 : (mt * T + 8388608 * md) * (uu * uu) = mt * uu + 8388608 * q d * uu := by rw [← qd]; grind
    have f3 : -(mt * T + 8388608 * md) * (uu * uu) = -(mt * uu + 8388608 * q d * uu) := by rw [← qd]; grind
    rw [f1, f3] at k1
    rw [f1, f2] at k2
    have f4 : q d * uu ≤ 3 * uu := Rat.mul_le_mul_of_nonneg_right (by grind) (by grind)
    constructor <;> grind
  obtain ⟨y1, y2⟩ := key
  have s1 : q s ≤ 1717 / 10000 := by
    apply Classical.byContradiction; intro k
    have := Rat.mul_le_mul_of_nonneg_right (show 1717 / 10000 ≤ q s by grind) (show 0 ≤ q d by grind)
    grind
  have s2 : -(1717 / 10000) ≤ q s := by
    apply Classical.byContradiction; intro k
    have := Rat.mul_le_mul_of_nonneg_right (show q s ≤ -(1717 / 10000) by grind) (show 0 ≤ q d by grind)
    grind
  have b1 := abs_rmul (a := q s) (b := q d - 2 - q t) (A := 1717 / 10000) (B := 31 / 100000000) (by grind) (by grind) (by grind) (by grind)
  have b2 := abs_rmul (a := q s) (b := q t - (q m - 1)) (A := 1717 / 10000) (B := 5 / 100000000) (by grind) (by grind) (by grind) (by grind)
  refine ⟨s, hT, fs, s2, s1, ⟨by grind, by grind⟩, m1, m2, fun k => ?_, fun k => p1 (sg2 k)⟩
  apply p2
  · have := sg1 k; omega
  · have := sg1 k
    have e : vz t = -mv t ∨ vz t = mv t := by unfold vz sv; split <;> simp
    have mm := mv_nn t
    have h2 : 2 ^ 125 ≤ mv t := by omega
    have h3 := Int.mul_le_mul_of_nonneg_right h2 (Int.le_of_lt P149)
    have h4 := mv_le d0 d1 (by decide)
    rw [show mv 1077936128 = 3 * 2 ^ 149 by decide +kernel] at h4
    have h5 : (3 : Int) * 2 ^ 149 ≤ 2 ^ 125 * 2 ^ 149 := by decide +kernel
    omega
end Go.Proofs.Ytkknnloamidaiaa.VI

namespace Go.Proofs.Ytkknnloamidaiaa.VI
set_option linter.unusedVariables false
set_option linter.unusedSimpArgs false
set_option maxRecDepth 100000
set_option maxHeartbeats 8000000
set_option exponentiation.threshold 2000
theorem log_y {s : Int} (fs : fnt s) (h1 : -(1717 / 10000) ≤ q s) (h2 : q s ≤ 1717 / 10000) :
    ∃ y w, logY s = y ∧ fnt y ∧ nq (q y) (pev pY (q s)) (1 / 10000000) ∧ pev pY (q s) = q s * (2 + w) ∧ 0 ≤ w ∧ w ≤ 202 / 10000 ∧ (vz s < 0 → vz y < 0) ∧ (0 ≤ vz s → 0 ≤ vz y) := by
  have hu := uu_sm
  have hu0 := uu_pos
  have e0 : logY s = fma s (mulf (fma (fma (fma 1046711865 (mulf s s) 1049774373) (mulf s s) 1053609165) (mulf s s) 1059760811) (mulf s s)) (addf s s) := rfl
  rw [e0]
  have f9 : fnt 1046711865 := fnt_lit (by decide)
  have f7 : fnt 1049774373 := fnt_lit (by decide)
  have f5 : fnt 1053609165 := fnt_lit (by decide)
  have f3 : fnt 1059760811 := fnt_lit (by decide)
  have q9 : q 1046711865 = 14913081 / 67108864 := by decide +kernel
  have q7 : q 1049774373 = 9586981 / 33554432 := by decide +kernel
  have q5 : q 1053609165 = 13421773 / 33554432 := by decide +kernel
  have q3 : q 1059760811 = 11184811 / 16777216 := by decide +kernel
  have f0 : fnt 0 := fnt_lit (by decide)
  have q0 : q 0 = 0 := by decide +kernel
  have fT : fnt 1073741824 := fnt_lit (by decide)
  have v0 : vz 0 = 0 := by decide
  have ss := abs_rmul h1 h2 h1 h2
  have sp : 0 ≤ q s * q s := by
    by_cases k : 0 ≤ q s
    · exact Rat.mul_nonneg k k
    · have := Rat.mul_nonneg (show 0 ≤ -q s by grind) (show 0 ≤ -q s by grind); grind
  have Z := mulf_q (B := 295 / 10000) fs fs (by grind) (by grind) (by grind)
  have z0 : 0 ≤ vz (mulf s s) := by
    have a1 : vz s * vz s ≤ vz 1073741824 * 2 ^ 149 := by
      have k := back_le (W := vz s * vz s) (n := 1) (by rw [q_mul, show ((1 : Int) : Rat) = 1 by decide +kernel]; grind)
      rw [show vz 1073741824 = 2 ^ 150 by decide +kernel]; omega
    have a2 : 0 ≤ vz s * vz s := by
      by_cases k : 0 ≤ vz s
      · exact Int.mul_nonneg k k
      · have := Int.mul_nonneg (show 0 ≤ -vz s by omega) (show 0 ≤ -vz s by omega); rwa [Int.neg_mul_neg] at this
    have := mulf_in fs fs f0 fT (by rw [v0, Int.zero_mul]; exact a2) a1
    rw [v0] at this; exact this.2.1
  generalize mulf s s = z at *
  obtain ⟨fz, za, zb⟩ := Z
  have qz0 : 0 ≤ q z := by have := q_le (a := 0) (b := z) (by rw [v0]; exact z0); rw [q0] at this; exact this
  have qz1 : q z ≤ 296 / 10000 := by grind
  have A1 := fma_q (B := 3 / 10) f9 fz f7 (by grind) (by rw [q9, q7]; grind) (by rw [q9, q7]; grind)
  rw [q9, q7] at A1
  generalize fma 1046711865 z 1049774373 = a1 at *
  obtain ⟨fa1, a11, a12⟩ := A1
  have P1 := abs_rmul (a := q a1) (b := q z) (A := 3 / 10) (B := 296 / 10000) (by grind) (by grind) (by grind) qz1
  have A2 := fma_q (B := 41 / 100) fa1 fz f5 (by grind) (by rw [q5]; grind) (by rw [q5]; grind)
  rw [q5] at A2
  generalize fma a1 z 1053609165 = a2 at *
  obtain ⟨fa2, a21, a22⟩ := A2
  have P2 := abs_rmul (a := q a2) (b := q z) (A := 41 / 100) (B := 296 / 10000) (by grind) (by grind) (by grind) qz1
  have A3 := fma_q (B := 68 / 100) fa2 fz f3 (by grind) (by rw [q3]; grind) (by rw [q3]; grind)
  rw [q3] at A3
  generalize fma a2 z 1059760811 = a3 at *
  obtain ⟨fa3, a31, a32⟩ := A3
  have P3 := abs_rmul (a := q a3) (b := q z) (A := 68 / 100) (B := 296 / 10000) (by grind) (by grind) (by grind) qz1
  have a3p : 0 ≤ q a3 := by grind
  have p3p := Rat.mul_nonneg a3p qz0
  have G := mulf_q (B := 202 / 10000) fa3 fz (by grind) (by grind) (by grind)
  have g0 : 0 ≤ vz (mulf a3 z) := by
    have i1 : 0 ≤ vz a3 := by have := le_q (a := 0) (b := a3) (by rw [q0]; exact a3p); rwa [v0] at this
    have b1 : vz a3 * vz z ≤ vz 1073741824 * 2 ^ 149 := by
      have k := back_le (W := vz a3 * vz z) (n := 1) (by rw [q_mul, show ((1 : Int) : Rat) = 1 by decide +kernel]; grind)
      rw [show vz 1073741824 = 2 ^ 150 by decide +kernel]; omega
    have := mulf_in fa3 fz f0 fT (by rw [v0, Int.zero_mul]; exact Int.mul_nonneg i1 z0) b1
    rw [v0] at this; exact this.2.1
  generalize mulf a3 z = g at *
  obtain ⟨fg, g1, g2⟩ := G
  have H := addf_q (B := 3434 / 10000) fs fs (by grind) (by grind) (by grind)
  have vOne : vz 1065353216 = 2 ^ 149 := by decide +kernel
  have vMOne : vz 3212836864 = -(2 ^ 149) := by decide +kernel
  have sb1 : vz 3212836864 ≤ vz s + vz s := by
    have k := le_q (a := 3204448256) (b := s) (by rw [show q 3204448256 = -(1 / 2) by decide +kernel]; grind)
    rw [show vz 3204448256 = -(2 ^ 148) by decide +kernel] at k; rw [vMOne]; omega
  have sb2 : vz s + vz s ≤ vz 1065353216 := by
    have k := le_q (a := s) (b := 1056964608) (by rw [show q 1056964608 = 1 / 2 by decide +kernel]; grind)
    rw [show vz 1056964608 = 2 ^ 148 by decide +kernel] at k; rw [vOne]; omega
  have hneg : vz s ≤ 0 → vz (addf s s) ≤ vz s := fun k => (addf_in fs fs (lo := 3212836864) (hi := s) (fnt_lit (by decide)) fs sb1 (by omega)).2.2
  have hpos : 0 ≤ vz s → vz s ≤ vz (addf s s) := fun k => (addf_in fs fs (lo := s) (hi := 1065353216) fs (fnt_lit (by decide)) (by omega) sb2).2.1
  generalize addf s s = h at *
  obtain ⟨fh, h3, h4⟩ := H
  have sg := abs_rmul (a := q s) (b := q g) (A := 1717 / 10000) (B := 203 / 10000) (by grind) (by grind) (by grind) (by grind)
  have Y := fma_q (B := 35 / 100) fs fg fh (by grind) (by grind) (by grind)
  have P149 : (0 : Int) < 2 ^ 149 := p2_pos 149
  have yneg : vz s < 0 → vz (fma s g h) < 0 := fun k => by
    have e1 : vz s * vz g ≤ 0 := by
      have := Int.mul_le_mul_of_nonneg_right (show vz s ≤ 0 by omega) g0; rwa [Int.zero_mul] at this
    have e2 := Int.mul_le_mul_of_nonneg_right (hneg (by omega)) (Int.le_of_lt P149)
    have k3 := back_ge (W := vz s * vz g + vz h * 2 ^ 149) (n := 1) (by rw [q_fma, show ((1 : Int) : Rat) = 1 by decide +kernel]; grind)
    have := fma_in fs fg fh (lo := 3212836864) (hi := s) (fnt_lit (by decide)) fs (by rw [vMOne]; omega) (by omega)
    omega
  have ypos : 0 ≤ vz s → 0 ≤ vz (fma s g h) := fun k => by
    have e1 : 0 ≤ vz s * vz g := Int.mul_nonneg k g0
    have e2 := Int.mul_le_mul_of_nonneg_right (hpos k) (Int.le_of_lt P149)
    have e3 := Int.mul_nonneg k (Int.le_of_lt P149)
    have k3 := back_le (W := vz s * vz g + vz h * 2 ^ 149) (n := 1) (by rw [q_fma, show ((1 : Int) : Rat) = 1 by decide +kernel]; grind)
    have := fma_in fs fg fh (lo := 0) (hi := 1065353216) f0 (fnt_lit (by decide)) (by rw [v0, Int.zero_mul]; omega) (by rw [vOne]; omega)
    rw [v0] at this; exact this.2.1
  generalize fma s g h = y at *
  obtain ⟨fy, y1, y2⟩ := Y
  have eP : pev pY (q s) = q s * (2 + q s * q s * (11184811 / 16777216 + q s * q s * (13421773 / 33554432 + q s * q s * (9586981 / 33554432 + q s * q s * (14913081 / 67108864))))) := by
    unfold pY; simp only [pev]; grind
  refine ⟨y, _, rfl, fy, ?_, eP, ?_, ?_, yneg, ypos⟩
  · rw [eP]
    generalize q s = S at *
    generalize hZ : S * S = Z at *
    generalize q z = z' at *
    have t1 := abs_rmul (a := z' - Z) (b := (14913081 / 67108864 : Rat)) (A := 4 / 1000000000) (B := 1 / 4) (by grind) (by grind) (by grind) (by grind)
    generalize hF1 : (9586981 / 33554432 : Rat) + Z * (14913081 / 67108864) = F1 at *
    have d1 : -(4 / 100000000) ≤ q a1 - F1 ∧ q a1 - F1 ≤ 4 / 100000000 := by constructor <;> grind
    have t2 := abs_rmul (a := q a1 - F1) (b := z') (A := 4 / 100000000) (B := 3 / 100) (by grind) (by grind) (by grind) (by grind)
    have F1b : 0 ≤ F1 ∧ F1 ≤ 3 / 10 := by constructor <;> grind
    have t3 := abs_rmul (a := z' - Z) (b := F1) (A := 4 / 1000000000) (B := 3 / 10) (by grind) (by grind) (by grind) (by grind)
    generalize hF2 : (13421773 / 33554432 : Rat) + Z * F1 = F2 at *
    have d2 : -(6 / 100000000) ≤ q a2 - F2 ∧ q a2 - F2 ≤ 6 / 100000000 := by constructor <;> grind
    have F2b : 0 ≤ F2 ∧ F2 ≤ 41 / 100 := by
      have := abs_rmul (a := Z) (b := F1) (A := 295 / 10000) (B := 3 / 10) (by grind) (by grind) (by grind) (by grind)
      constructor <;> grind
    have t4 := abs_rmul (a := q a2 - F2) (b := z') (A := 6 / 100000000) (B := 3 / 100) (by grind) (by grind) (by grind) (by grind)
    have t5 := abs_rmul (a := z' - Z) (b := F2) (A := 4 / 1000000000) (B := 41 / 100) (by grind) (by grind) (by grind) (by grind)
    generalize hF3 : (11184811 / 16777216 : Rat) + Z * F2 = F3 at *
    have d3 : -(9 / 100000000) ≤ q a3 - F3 ∧ q a3 - F3 ≤ 9 / 100000000 := by constructor <;> grind
    have F3b : 0 ≤ F3 ∧ F3 ≤ 68 / 100 := by
      have := abs_rmul (a := Z) (b := F2) (A := 295 / 10000) (B := 41 / 100) (by grind) (by grind) (by grind) (by grind)
      constructor <;> grind
    have t6 := abs_rmul (a := q a3 - F3) (b := z') (A := 9 / 100000000) (B := 3 / 100) (by grind) (by grind) (by grind) (by grind)
    have t7 := abs_rmul (a := z' - Z) (b := F3) (A := 4 / 1000000000) (B := 68 / 100) (by grind) (by grind) (by grind) (by grind)
    have d4 : -(1 / 100000000) ≤ q g - Z * F3 ∧ q g - Z * F3 ≤ 1 / 100000000 := by constructor <;> grind
    have t8 := abs_rmul (a := S) (b := q g - Z * F3) (A := 1717 / 10000) (B := 1 / 100000000) (by grind) (by grind) d4.1 d4.2
    constructor <;> grind
  · have a1 := Rat.mul_nonneg sp (show (0 : Rat) ≤ 14913081 / 67108864 by grind)
    have a2 := Rat.mul_nonneg sp (show 0 ≤ 9586981 / 33554432 + q s * q s * (14913081 / 67108864) by grind)
    have a3 := Rat.mul_nonneg sp (show 0 ≤ 13421773 / 33554432 + q s * q s * (9586981 / 33554432 + q s * q s * (14913081 / 67108864)) by grind)
    exact Rat.mul_nonneg sp (by grind)
  · generalize hZ : q s * q s = Z at *
    have a1 := abs_rmul (a := Z) (b := (14913081 / 67108864 : Rat)) (A := 295 / 10000) (B := 1 / 4) (by grind) (by grind) (by grind) (by grind)
    have a2 := abs_rmul (a := Z) (b := 9586981 / 33554432 + Z * (14913081 / 67108864)) (A := 295 / 10000) (B := 3 / 10) (by grind) (by grind) (by grind) (by grind)
    have a3 := abs_rmul (a := Z) (b := 13421773 / 33554432 + Z * (9586981 / 33554432 + Z * (14913081 / 67108864))) (A := 295 / 10000) (B := 41 / 100) (by grind) (by grind) (by grind) (by grind)
    have a4 := abs_rmul (a := Z) (b := 11184811 / 16777216 + Z * (13421773 / 33554432 + Z * (9586981 / 33554432 + Z * (14913081 / 67108864)))) (A := 295 / 10000) (B := 68 / 100) (by grind) (by grind) (by grind) (by grind)
    grind
end Go.Proofs.Ytkknnloamidaiaa.VI

namespace Go.Proofs.Ytkknnloamidaiaa.VI
set_option linter.unusedVariables false
set_option linter.unusedSimpArgs false
set_option maxRecDepth 100000
set_option maxHeartbeats 8000000
set_option exponentiation.threshold 2000
theorem q_turn {a : Int} (h : fnt a) : q (turnS 2 a) = -q a := by
  unfold q; rw [(turn_fin h).2, Rat.intCast_neg]; grind
theorem q_int {n : Int} (h : -16777216 < n ∧ n < 16777216) : fnt (intf n) ∧ q (intf n) = (n : Rat) := by
  obtain ⟨f, v⟩ := int_exact h
  refine ⟨f, ?_⟩
  unfold q
  rw [v, Rat.intCast_mul, Rat.mul_assoc, uu_T, Rat.mul_one]
theorem two_lt {l : Int} (fl : fnt l) (h1 : -2 ≤ q l) (h2 : q l ≤ 2) : ab 7 l ∧ lt 2 1118925336 l = false ∧ lt 2 l 3268407733 = false := by
  have k1 := le_q (a := 3221225472) (b := l) (by rw [show q 3221225472 = -2 by decide +kernel]; exact h1)
  have k2 := le_q (a := l) (b := 1073741824) (by rw [show q 1073741824 = 2 by decide +kernel]; exact h2)
  rw [show vz 3221225472 = -(2 ^ 150) by decide +kernel] at k1
  rw [show vz 1073741824 = 2 ^ 150 by decide +kernel] at k2
  have w := fl.1
  have w0 := w.1
  have w1 := w.2
  have f2 := fl.2
  have hm : l % 2147483648 ≤ 1073741824 := by
    have hh : mv (l % 2147483648) ≤ mv 1073741824 := by
      rw [mv_mod l w, mv_two]
      unfold vz sv at k1 k2
      cases hs : sg 2 l <;> rw [hs] at k1 k2 <;> simp at k1 k2 <;> omega
    exact mv_code_le (by omega) (by decide) (by decide) f2 hh
  refine ⟨⟨fl, by have : (2 : Int) ^ 7 * 2 ^ 149 = 64 * 2 ^ 150 := rfl; omega, by have : (2 : Int) ^ 7 * 2 ^ 149 = 64 * 2 ^ 150 := rfl; omega⟩, ?_, ?_⟩
  · rw [Bool.eq_false_iff]; intro k
    rw [lt_iff] at k
    have k := k.2.2.2
    rw [show ky 2 1118925336 = 1118925336 by decide] at k
    unfold ky at k
    rw [show TT 2 = 2147483648 from rfl] at k
    cases hs : sg 2 l <;> rw [hs] at k <;> simp at k <;> omega
  · rw [Bool.eq_false_iff]; intro k
    rw [lt_iff] at k
    have k := k.2.2.2
    rw [show ky 2 3268407733 = -1120924086 by decide] at k
    unfold ky at k
    rw [show TT 2 = 2147483648 from rfl] at k
    cases hs : sg 2 l <;> rw [hs] at k <;> simp at k <;> omega
theorem exp_q {l : Int} (fl : fnt l) (h1 : -2 ≤ q l) (h2 : q l ≤ 2) :
    ∃ n r P, expS l = scalef P n ∧ -186 ≤ n ∧ n ≤ 186 ∧ fnt P ∧ 2 ^ 148 ≤ vz P ∧ vz P ≤ 2 ^ 150
      ∧ -(5 / 8) ≤ q l * (12102203 / 8388608) - (n : Rat) ∧ q l * (12102203 / 8388608) - (n : Rat) ≤ 5 / 8
      ∧ nq (q r) (q l - (n : Rat) * cC) (12 / 100000000) ∧ -(44 / 100) ≤ q r ∧ q r ≤ 44 / 100 ∧ nq (q P) (pev pE (q r)) (28 / 100000000) := by
  have hu := uu_sm
  have hu0 := uu_pos
  obtain ⟨hab, lt1, lt2⟩ := two_lt fl h1 h2
  obtain ⟨n, hn, n1, n2, d1, d2, _, _⟩ := expN hab
  obtain ⟨fr, r1, r2, _⟩ := expR_in hab hn n1 n2 d1 d2
  obtain ⟨P, hP, fP, P1, P2, _, _⟩ := exp_poly fr r1 r2
  have hE : expS l = scalef P n := by
    unfold expS
    rw [fin_nan fl, lt1, lt2]
    simp only [Bool.false_eq_true, if_false]
    unfold expM
    rw [hP, hn]
  have c1 := cast_le d1
  have c2 := cast_le d2
  simp only [Rat.intCast_neg, Rat.intCast_mul, Rat.intCast_sub] at c1 c2
  have huu : 0 ≤ uu * uu := Rat.mul_nonneg (by grind) (by grind)
  have k1 := Rat.mul_le_mul_of_nonneg_right c1 huu
  have k2 := Rat.mul_le_mul_of_nonneg_right c2 huu
  have qL : q 1069066811 = 12102203 / 8388608 := by decide +kernel
  have eT : ((2 ^ 298 : Int) : Rat) * (uu * uu) = 1 := by decide +kernel
  have e8 : ((8 : Int) : Rat) = 8 := by decide +kernel
  have e5 : ((5 : Int) : Rat) = 5 := by decide +kernel
  rw [e8, e5] at k1 k2
  have nb : -(5 / 8) ≤ q l * (12102203 / 8388608) - (n : Rat) ∧ q l * (12102203 / 8388608) - (n : Rat) ≤ 5 / 8 := by
    rw [← qL]
    have ql : q l = (vz l : Rat) * uu := rfl
    have qL' : q 1069066811 = (vz 1069066811 : Rat) * uu := rfl
    generalize ((2 ^ 298 : Int) : Rat) = T at *
    generalize (vz 1069066811 : Rat) = vL at *
    generalize (vz l : Rat) = v at *
    generalize (n : Rat) = N at *
    rw [ql, qL']
    have f1 : (8 : Rat) * (v * vL - N * T) * (uu * uu) = 8 * (v * uu * (vL * uu) - N) := by grind
    have f2 : (5 : Rat) * T * (uu * uu) = 5 := by grind
    have f3 : -((5 : Rat) * T) * (uu * uu) = -5 := by grind
    rw [f1, f3] at k1
    rw [f1, f2] at k2
    constructor <;> grind
  obtain ⟨fi, qi⟩ := q_int (n := n) (by omega)
  have ft := (turn_fin fi).1
  have qt := q_turn fi
  rw [qi] at qt
  have fH : fnt 1060205056 := fnt_lit (by decide)
  have fL : fnt 901758606 := fnt_lit (by decide)
  have qH : q 1060205056 = 22713 / 32768 := by decide +kernel
  have qLo : q 901758606 = 6283079 / 4398046511104 := by decide +kernel
  have er := expR_un l
  rw [hn] at er
  have A := fma_q (B := 44 / 100) ft fH fl (by grind) (by rw [qt, qH]; grind) (by rw [qt, qH]; grind)
  rw [qt, qH] at A
  generalize fma (turnS 2 (intf n)) 1060205056 l = a at *
  obtain ⟨fa, a1, a2⟩ := A
  have nr : -(4 : Rat) ≤ (n : Rat) ∧ (n : Rat) ≤ 4 := by constructor <;> grind
  have R := fma_q (B := 44 / 100) ft fL fa (by grind) (by rw [qt, qLo]; grind) (by rw [qt, qLo]; grind)
  rw [qt, qLo, ← er] at R
  have hr : nq (q (expR l)) (q l - (n : Rat) * cC) (12 / 100000000) := by
    unfold cC
    obtain ⟨_, b1, b2⟩ := R
    constructor <;> grind
  have rb : -(44 / 100) ≤ q (expR l) ∧ q (expR l) ≤ 44 / 100 := by
    obtain ⟨_, b1, b2⟩ := R
    constructor <;> grind
  generalize expR l = r at *
  refine ⟨n, r, P, hE, n1, n2, fP, P1, P2, nb.1, nb.2, hr, rb.1, rb.2, ?_⟩
  rw [← hP]
  have e0 : polyS r 985008993 [1007192201, 1026206379, 1042983595, 1056964608, 1065353216, 1065353216] = fma (fma (fma (fma (fma (fma 985008993 r 1007192201) r 1026206379) r 1042983595) r 1056964608) r 1065353216) r 1065353216 := rfl
  rw [e0]
  have g6 : fnt 985008993 := fnt_lit (by decide)
  have g5 : fnt 1007192201 := fnt_lit (by decide)
  have g4 : fnt 1026206379 := fnt_lit (by decide)
  have g3 : fnt 1042983595 := fnt_lit (by decide)
  have g2 : fnt 1056964608 := fnt_lit (by decide)
  have g1 : fnt 1065353216 := fnt_lit (by decide)
  have q6 : q 985008993 = 11930465 / 8589934592 := by decide +kernel
  have q5 : q 1007192201 = 8947849 / 1073741824 := by decide +kernel
  have q4 : q 1026206379 = 11184811 / 268435456 := by decide +kernel
  have q3 : q 1042983595 = 11184811 / 67108864 := by decide +kernel
  have q2 : q 1056964608 = 1 / 2 := by decide +kernel
  have q1 : q 1065353216 = 1 := by decide +kernel
  obtain ⟨rb1, rb2⟩ := rb
  have F1 := fma_q (B := 9 / 1000) g6 fr g5 (by grind) (by rw [q6, q5]; grind) (by rw [q6, q5]; grind)
  rw [q6, q5] at F1
  generalize fma 985008993 r 1007192201 = p1 at *
  obtain ⟨f1, x1, x2⟩ := F1
  have P1 := abs_rmul (a := q p1) (b := q r) (A := 9 / 1000) (B := 44 / 100) (by grind) (by grind) rb1 rb2
  have F2 := fma_q (B := 46 / 1000) f1 fr g4 (by grind) (by rw [q4]; grind) (by rw [q4]; grind)
  rw [q4] at F2
  generalize fma p1 r 1026206379 = p2 at *
  obtain ⟨f2, x3, x4⟩ := F2
  have P2 := abs_rmul (a := q p2) (b := q r) (A := 47 / 1000) (B := 44 / 100) (by grind) (by grind) rb1 rb2
  have F3 := fma_q (B := 188 / 1000) f2 fr g3 (by grind) (by rw [q3]; grind) (by rw [q3]; grind)
  rw [q3] at F3
  generalize fma p2 r 1042983595 = p3 at *
  obtain ⟨f3, x5, x6⟩ := F3
  have P3 := abs_rmul (a := q p3) (b := q r) (A := 189 / 1000) (B := 44 / 100) (by grind) (by grind) rb1 rb2
  have F4 := fma_q (B := 584 / 1000) f3 fr g2 (by grind) (by rw [q2]; grind) (by rw [q2]; grind)
  rw [q2] at F4
  generalize fma p3 r 1056964608 = p4 at *
  obtain ⟨f4, x7, x8⟩ := F4
  have P4 := abs_rmul (a := q p4) (b := q r) (A := 585 / 1000) (B := 44 / 100) (by grind) (by grind) rb1 rb2
  have F5 := fma_q (B := 1258 / 1000) f4 fr g1 (by grind) (by rw [q1]; grind) (by rw [q1]; grind)
  rw [q1] at F5
  generalize fma p4 r 1065353216 = p5 at *
  obtain ⟨f5, x9, x10⟩ := F5
  have P5 := abs_rmul (a := q p5) (b := q r) (A := 1259 / 1000) (B := 44 / 100) (by grind) (by grind) rb1 rb2
  have F6 := fma_q (B := 1554 / 1000) f5 fr g1 (by grind) (by rw [q1]; grind) (by rw [q1]; grind)
  rw [q1] at F6
  generalize fma p5 r 1065353216 = p6 at *
  obtain ⟨f6, x11, x12⟩ := F6
  have eP : pev pE (q r) = 1 + q r * (1 + q r * (1 / 2 + q r * (11184811 / 67108864 + q r * (11184811 / 268435456 + q r * (8947849 / 1073741824 + q r * (11930465 / 8589934592)))))) := by
    unfold pE; simp only [pev]; grind
  rw [eP]
  generalize q r = X at *
  generalize hG1 : (8947849 / 1073741824 : Rat) + X * (11930465 / 8589934592) = G1 at *
  have d1 : -(2 / 1000000000) ≤ q p1 - G1 ∧ q p1 - G1 ≤ 2 / 1000000000 := by constructor <;> grind
  have t1 := abs_rmul (a := q p1 - G1) (b := X) (A := 2 / 1000000000) (B := 44 / 100) d1.1 d1.2 rb1 rb2
  generalize hG2 : (11184811 / 268435456 : Rat) + X * G1 = G2 at *
  have d2 : -(7 / 1000000000) ≤ q p2 - G2 ∧ q p2 - G2 ≤ 7 / 1000000000 := by constructor <;> grind
  have t2 := abs_rmul (a := q p2 - G2) (b := X) (A := 7 / 1000000000) (B := 44 / 100) d2.1 d2.2 rb1 rb2
  generalize hG3 : (11184811 / 67108864 : Rat) + X * G2 = G3 at *
  have d3 : -(26 / 1000000000) ≤ q p3 - G3 ∧ q p3 - G3 ≤ 26 / 1000000000 := by constructor <;> grind
  have t3 := abs_rmul (a := q p3 - G3) (b := X) (A := 26 / 1000000000) (B := 44 / 100) d3.1 d3.2 rb1 rb2
  generalize hG4 : (1 / 2 : Rat) + X * G3 = G4 at *
  have d4 : -(82 / 1000000000) ≤ q p4 - G4 ∧ q p4 - G4 ≤ 82 / 1000000000 := by constructor <;> grind
  have t4 := abs_rmul (a := q p4 - G4) (b := X) (A := 82 / 1000000000) (B := 44 / 100) d4.1 d4.2 rb1 rb2
  generalize hG5 : (1 : Rat) + X * G4 = G5 at *
  have d5 : -(188 / 1000000000) ≤ q p5 - G5 ∧ q p5 - G5 ≤ 188 / 1000000000 := by constructor <;> grind
  have t5 := abs_rmul (a := q p5 - G5) (b := X) (A := 188 / 1000000000) (B := 44 / 100) d5.1 d5.2 rb1 rb2
  constructor <;> grind
end Go.Proofs.Ytkknnloamidaiaa.VI

namespace Go.Proofs.Ytkknnloamidaiaa.VI
set_option linter.unusedVariables false
set_option linter.unusedSimpArgs false
set_option maxRecDepth 100000
set_option maxHeartbeats 8000000
set_option exponentiation.threshold 2000
theorem shift_parts {P n : Int} (h0 : 8388608 ≤ P) (h1 : P < 2139095040) (h2 : 8388608 ≤ P + n * 8388608) (h3 : P + n * 8388608 < 2139095040) :
    xp 2 (P + n * 8388608) = xp 2 P + n ∧ sig 2 (P + n * 8388608) = sig 2 P ∧ -149 ≤ xp 2 P ∧ 0 < sig 2 P := by
  obtain ⟨a1, a2, a3, a4, a5, a6⟩ := code_parts (show 0 ≤ P by omega) h1
  obtain ⟨b1, b2, b3, b4, b5, b6⟩ := code_parts (show 0 ≤ P + n * 8388608 by omega) h3
  omega
theorem scale_code {P n : Int} (h0 : 8388608 ≤ P) (h1 : P < 2139095040) (h2 : 8388608 ≤ P + n * 8388608) (h3 : P + n * 8388608 < 2139095040) : scalef P n = P + n * 8388608 := by
  obtain ⟨s1, s2, s3, s4⟩ := shift_parts h0 h1 h2 h3
  obtain ⟨fP, vP⟩ := code_fnt (show 0 ≤ P by omega) h1
  obtain ⟨b1, b2, b3, b4, b5, b6⟩ := code_parts (show 0 ≤ P + n * 8388608 by omega) h3
  have hsg : sg 2 P = false := by rw [sgd fP.1]; simp; omega
  have hz : zr 2 P = false := by
    unfold zr; apply decide_eq_false; rw [show TT 2 = 2147483648 from rfl]; omega
  have e : scalef P n = (pk 2 0 false (xp 2 P + n) (sig 2 P) false).1 := by
    unfold scalef scaleS
    rw [fin_nan fP, fin_inf fP, hz, hsg, show min (max n (-5000)) 5000 = n by omega]
    rfl
  obtain ⟨M, M0, M1, hM, up, dn⟩ := rnd_mag false (e := xp 2 P + n) (N := sig 2 P) s4 (by omega)
  have mu := mv_up (P + n * 8388608)
  rw [s1, s2] at mu
  have u := up (P + n * 8388608) (by omega) h3 (by rw [mu]; exact Int.le_refl _)
  have d := dn (P + n * 8388608) (by omega) h3 (by rw [mu]; exact Int.le_refl _)
  rw [e, hM]
  show 0 + M = _
  omega
theorem log_parts {x : Int} (h0 : 1048576000 ≤ x) (h1 : x < 1082130432) :
    ∃ e m : Int, logS x = logK e m ∧ 1060439284 ≤ m ∧ m ≤ 1068827891 ∧ x = m + e * 8388608 ∧ -2 ≤ e ∧ e ≤ 2 := by
  obtain ⟨fx, vx⟩ := code_fnt (show 0 ≤ x by omega) (show x < 2139095040 by omega)
  obtain ⟨a1, a2, a3, a4, a5, a6⟩ := code_parts (show 0 ≤ x by omega) (show x < 2139095040 by omega)
  have hsg : sg 2 x = false := by rw [sgd fx.1]; simp; omega
  have hz : zr 2 x = false := by
    unfold zr; apply decide_eq_false; rw [show TT 2 = 2147483648 from rfl]; omega
  have hl : lg (sig 2 x) = 23 := lg_uniq (by rw [show (2 : Int) ^ 23 = 8388608 from rfl]; omega) (by rw [show (2 : Int) ^ (23 + 1) = 16777216 from rfl]; omega)
  have hE : logE x = xp 2 x + 23 := by unfold logE; rw [ln_pos (by omega), hl]; omega
  have hs : scalef x (-logE x) = x - logE x * 8388608 := by
    rw [scale_code (by omega) (by omega) (by rw [hE]; omega) (by rw [hE]; omega)]; omega
  unfold logS
  rw [fin_nan fx, hz, hsg, fin_inf fx]
  simp only [Bool.false_eq_true, if_false]
  unfold logM
  rw [hs]
  generalize logE x = E at *
  by_cases k : 1068827891 < x - E * 8388608
  · rw [if_pos (lt_pos (by decide) (by omega) k)]
    refine ⟨E + 1, x - E * 8388608 + -1 * 8388608, ?_, by omega, by omega, by omega, by omega, by omega⟩
    rw [scale_code (P := x - E * 8388608) (n := -1) (by omega) (by omega) (by omega) (by omega)]
  · rw [if_neg]
    · exact ⟨E, _, rfl, by omega, by omega, by omega, by omega, by omega⟩
    · rw [lt_iff]
      rintro ⟨_, _, _, q⟩
      have w : w32 (x - E * 8388608) := ⟨by omega, by omega⟩
      rw [show ky 2 1068827891 = 1068827891 by decide] at q
      unfold ky at q
      rw [show sg 2 (x - E * 8388608) = false by rw [sgd w]; simp; omega, show TT 2 = 2147483648 from rfl] at q
      simp at q
      omega
theorem log_l {e m : Int} (h0 : 1060439284 ≤ m) (h1 : m ≤ 1068827891) (e1 : -2 ≤ e) (e2 : e ≤ 2) (hx : (e = 2 → m ≤ 1065353216)) :
    ∃ l s w, logK e m = l ∧ fnt l ∧ -(1717 / 10000) ≤ q s ∧ q s ≤ 1717 / 10000 ∧ nq (q m * (1 - q s)) (1 + q s) (23 / 100000000) ∧ 707106 / 1000000 ≤ q m ∧ q m ≤ 1414214 / 1000000
      ∧ pev pY (q s) = q s * (2 + w) ∧ 0 ≤ w ∧ w ≤ 202 / 10000 ∧ nq (q l) ((e : Rat) * cC + pev pY (q s)) (355 / 1000000000) ∧ -2 ≤ q l ∧ q l ≤ 2
      ∧ (e = 0 → m < 1065353216 → vz l < 0) ∧ (e = 0 → 1065353216 ≤ m → 0 ≤ vz l) := by
  have hu := uu_sm
  have hu0 := uu_pos
  obtain ⟨s, hs, fs, s1, s2, sm, m1, m2, sg1, sg2⟩ := log_s h0 h1
  obtain ⟨y, w, hy, fy, ⟨y1, y2⟩, hw, w0, w1, yg1, yg2⟩ := log_y fs s1 s2
  have hb := abs_rmul (a := q s) (b := 2 + w) (A := 1717 / 10000) (B := 20202 / 10000) s1 s2 (by grind) (by grind)
  obtain ⟨fi, qi⟩ := q_int (n := e) (by omega)
  have fH : fnt 1060205056 := fnt_lit (by decide)
  have fL : fnt 901758606 := fnt_lit (by decide)
  have qH : q 1060205056 = 22713 / 32768 := by decide +kernel
  have qLo : q 901758606 = 6283079 / 4398046511104 := by decide +kernel
  have er1 : -2 ≤ (e : Rat) := by have := cast_le e1; rwa [show ((-2 : Int) : Rat) = -2 by decide +kernel] at this
  have er2 : (e : Rat) ≤ 2 := by have := cast_le e2; rwa [show ((2 : Int) : Rat) = 2 by decide +kernel] at this
  have eK : logK e m = fma (intf e) 1060205056 (fma (intf e) 901758606 y) := by unfold logK; rw [hs, hy]
  have ei : vz (intf e) = e * 2 ^ 149 := (int_exact (n := e) (by omega)).2
  have A := fma_q (B := 3475 / 10000) fi fL fy (by grind) (by rw [qi, qLo]; grind) (by rw [qi, qLo]; grind)
  rw [qi, qLo] at A
  have A0 : e = 0 → vz (fma (intf e) 901758606 y) = vz y := by
    intro k
    have := fma_in fi fL fy fy fy (by rw [ei, k]; simp) (by rw [ei, k]; simp)
    exact Int.le_antisymm this.2.2 this.2.1
  rw [eK]
  generalize fma (intf e) 901758606 y = a at *
  obtain ⟨fa, a1, a2⟩ := A
  have L := fma_q (B := 174 / 100) fi fH fa (by grind) (by rw [qi, qH]; grind) (by rw [qi, qH]; grind)
  rw [qi, qH] at L
  have L0 : e = 0 → vz (fma (intf e) 1060205056 a) = vz a := by
    intro k
    have := fma_in fi fH fa fa fa (by rw [ei, k]; simp) (by rw [ei, k]; simp)
    exact Int.le_antisymm this.2.2 this.2.1
  generalize fma (intf e) 1060205056 a = l at *
  obtain ⟨fl, l1, l2⟩ := L
  refine ⟨l, s, w, rfl, fl, s1, s2, sm, m1, m2, hw, w0, w1, ⟨?_, ?_⟩, by grind, by grind, fun k k2 => ?_, fun k k2 => ?_⟩
  · unfold cC; grind
  · unfold cC; grind
  · rw [L0 k, A0 k]; exact yg1 (sg1 k2)
  · rw [L0 k, A0 k]; exact yg2 (sg2 k2)
end Go.Proofs.Ytkknnloamidaiaa.VI

namespace Go.Proofs.Ytkknnloamidaiaa.VI
set_option linter.unusedVariables false
set_option linter.unusedSimpArgs false
set_option maxRecDepth 100000
set_option maxHeartbeats 8000000
set_option exponentiation.threshold 2000
def dqp : List Rat → Rat → Rat → Rat
  | [], _, _ => 0
  | c :: p, a, b => pev p a + b * dqp p a b
def dqb : List Rat → Rat → Rat
  | [], _ => 0
  | c :: p, S => sbd p S + S * dqb p S
theorem dqp_eq : ∀ (p : List Rat) (a b : Rat), pev p a - pev p b = (a - b) * dqp p a b
  | [], a, b => by simp only [pev, dqp]; grind
  | c :: p, a, b => by
    have := dqp_eq p a b
    simp only [pev, dqp]
    have e : c + a * pev p a - (c + b * pev p b) = (a - b) * pev p a + b * (pev p a - pev p b) := by grind
    rw [e, this]; grind
theorem dqp_bd {S a b : Rat} (a1 : -S ≤ a) (a2 : a ≤ S) (b1 : -S ≤ b) (b2 : b ≤ S) : ∀ p : List Rat, -dqb p S ≤ dqp p a b ∧ dqp p a b ≤ dqb p S
  | [] => by simp [dqp, dqb]
  | c :: p => by
    obtain ⟨x, y⟩ := dqp_bd a1 a2 b1 b2 p
    have e := pev_bd a1 a2 p
    have k := abs_rmul b1 b2 x y
    simp only [dqp, dqb]
    constructor <;> grind
theorem lip {a b D : Rat} (a1 : -(441 / 1000) ≤ a) (a2 : a ≤ 441 / 1000) (b1 : -(441 / 1000) ≤ b) (b2 : b ≤ 441 / 1000) (d1 : -D ≤ a - b) (d2 : a - b ≤ D) :
    -(D * (156 / 100)) ≤ pev pE a - pev pE b ∧ pev pE a - pev pE b ≤ D * (156 / 100) := by
  rw [dqp_eq]
  obtain ⟨x, y⟩ := dqp_bd a1 a2 b1 b2 pE
  have k : dqb pE (441 / 1000) ≤ 156 / 100 := by decide +kernel
  exact abs_rmul d1 d2 (by grind) (by grind)
theorem qdiff {a b : Int} (a0 : 1056964608 ≤ a) (b0 : 1056964608 ≤ b) (a1 : a < 2139095040) (b1 : b < 2139095040) (h : q b - q a < 64 / 16777216) : b - a < 64 := by
  apply Int.lt_of_not_ge; intro k
  have key : ∀ d : Nat, ∀ c : Int, 1056964608 ≤ c → c + d < 2139095040 → mv c + d * 2 ^ 125 ≤ mv (c + d) := by
    intro d
    induction d with
    | zero => intro c _ _; simp
    | succ d ih =>
      intro c c0 c1
      have h1 := ih c c0 (by omega)
      have h2 : mv (c + d) + 2 ^ 125 ≤ mv (c + d + 1) := by
        obtain ⟨p1, p2, p3, p4, p5, p6⟩ := code_parts (show 0 ≤ c + d by omega) (by omega : c + d < 2139095040)
        obtain ⟨r1, r2, r3, r4, r5, r6⟩ := code_parts (show 0 ≤ c + d + 1 by omega) (by omega : c + d + 1 < 2139095040)
        unfold mv
        generalize sig 2 (c + d) = A at *
        generalize sig 2 (c + d + 1) = B at *
        generalize xp 2 (c + d) = x at *
        generalize xp 2 (c + d + 1) = y at *
        have hx : -24 ≤ x := by omega
        have p := p2_le (show 125 ≤ (x + 149).toNat by omega)
        have hc : (y = x ∧ B = A + 1) ∨ (y = x + 1 ∧ A = 16777215 ∧ B = 8388608) := by omega
        have main : (B * 2 ^ (y + 149).toNat) = (A + 1) * 2 ^ (x + 149).toNat := by
          rcases hc with ⟨rfl, rfl⟩ | ⟨rfl, rfl, rfl⟩
          · rfl
          · rw [show (x + 1 + 149).toNat = (x + 149).toNat + 1 by omega, p2_succ]; omega
        rw [main, Int.add_mul, Int.one_mul]; omega
      have e : c + ((d + 1 : Nat) : Int) = c + d + 1 := by omega
      rw [e]
      have : ((d + 1 : Nat) : Int) * 2 ^ 125 = (d : Int) * 2 ^ 125 + 2 ^ 125 := by
        rw [show ((d + 1 : Nat) : Int) = (d : Int) + 1 by omega, Int.add_mul, Int.one_mul]
      omega
  have h1 := key (b - a).toNat a a0 (by omega)
  rw [show a + (((b - a).toNat : Nat) : Int) = b by omega, show (((b - a).toNat : Nat) : Int) = b - a by omega] at h1
  have h2 : mv a + 64 * 2 ^ 125 ≤ mv b := by
    have := Int.mul_le_mul_of_nonneg_right (show 64 ≤ b - a from k) (show (0 : Int) ≤ 2 ^ 125 by have := p2_pos 125; omega)
    omega
  have c := Rat.mul_le_mul_of_nonneg_right (cast_le h2) (show 0 ≤ uu by have := uu_pos; grind)
  rw [Rat.intCast_add] at c
  have ea := q_mv (show 0 ≤ a by omega) a1
  have eb := q_mv (show 0 ≤ b by omega) b1
  have e : ((64 * 2 ^ 125 : Int) : Rat) * uu = 64 / 16777216 := by decide +kernel
  rw [eb] at c
  have : (mv a + ((64 * 2 ^ 125 : Int) : Rat)) * uu = q a + 64 / 16777216 := by rw [← ea, ← e]; grind
  grind
theorem q_up {c : Int} (h0 : 8388608 ≤ c) (h1 : c + 8388608 < 2139095040) : q (c + 8388608) = 2 * q c := by
  obtain ⟨s1, s2, s3, s4⟩ := shift_parts (n := 1) h0 (by omega) (by omega) (by omega)
  rw [Int.one_mul] at s1 s2
  have e : mv (c + 8388608) = 2 * mv c := by
    unfold mv
    rw [s1, s2, show (xp 2 c + 1 + 149).toNat = (xp 2 c + 149).toNat + 1 by omega, p2_succ]
    simp only [Int.mul_left_comm]
  rw [← q_mv (show 0 ≤ c + 8388608 by omega) h1, ← q_mv (show 0 ≤ c by omega) (by omega), e, Rat.intCast_mul, show ((2 : Int) : Rat) = 2 by decide +kernel]
  grind
theorem d_hi {e n Y z : Rat} (g1 : -(5 / 8) ≤ z * (12102203 / 8388608) - n) (l2 : z ≤ e * cC + Y + 355 / 1000000000) (er1 : -2 ≤ e) (er2 : e ≤ 2) (y : Y ≤ 1717 / 10000 * (20202 / 10000)) : ¬ 2 ≤ n - e := by
  unfold cC at l2; intro k; grind
theorem d_lo {e n Y z : Rat} (g2 : z * (12102203 / 8388608) - n ≤ 5 / 8) (l1 : e * cC + Y - 355 / 1000000000 ≤ z) (er1 : -2 ≤ e) (er2 : e ≤ 2) (y : -(1717 / 10000 * (20202 / 10000)) ≤ Y) : ¬ n - e ≤ -2 := by
  unfold cC at l1; intro k; grind
theorem y_lo {e n Y z : Rat} (g1 : -(5 / 8) ≤ z * (12102203 / 8388608) - n) (g2 : z * (12102203 / 8388608) - n ≤ 5 / 8) (l1 : e * cC + Y - 355 / 1000000000 ≤ z) (er1 : -2 ≤ e) (er2 : e ≤ 2) (k : n - e = -1) : Y ≤ -(2598 / 10000) := by
  unfold cC at l1; grind
theorem y_hi {e n Y z : Rat} (g1 : -(5 / 8) ≤ z * (12102203 / 8388608) - n) (g2 : z * (12102203 / 8388608) - n ≤ 5 / 8) (l2 : z ≤ e * cC + Y + 355 / 1000000000) (er1 : -2 ≤ e) (er2 : e ≤ 2) (k : n - e = 1) : 2598 / 10000 ≤ Y := by
  unfold cC at l2; grind
theorem l_lo {e Y z : Rat} (l2 : z ≤ e * cC + Y + 355 / 1000000000) (ke : e ≤ -1) (y : Y ≤ 1717 / 10000 * (20202 / 10000)) : z ≤ -(1 / 4) := by
  unfold cC at l2; grind
theorem l_hi {e Y z : Rat} (l1 : e * cC + Y - 355 / 1000000000 ≤ z) (ke : 1 ≤ e) (y : -(1717 / 10000 * (20202 / 10000)) ≤ Y) : 0 ≤ z := by
  unfold cC at l1; grind
theorem r_in {q Y d z e n : Rat} (dq : d = n - e) (r1 : z - n * cC - 12 / 100000000 ≤ q) (r2 : q ≤ z - n * cC + 12 / 100000000) (l1 : e * cC + Y - 355 / 1000000000 ≤ z) (l2 : z ≤ e * cC + Y + 355 / 1000000000) : nq q (Y - d * cC) (476 / 1000000000) := by
  subst dq; constructor <;> grind
theorem pair_near {x : Int} (h0 : 1048576000 ≤ x) (h1 : x < 1082130432) :
    ∃ l y, logS x = l ∧ expS l = y ∧ fnt l ∧ 0 ≤ y ∧ y < 2139095040 ∧ -64 < y - x ∧ y - x < 64 ∧ (x < 1065353216 → vz l < 0) ∧ (1065353216 ≤ x → 0 ≤ vz l) := by
  have hu := uu_sm
  have hu0 := uu_pos
  obtain ⟨e, m, hl, m1, m2, hx, e1, e2⟩ := log_parts h0 h1
  obtain ⟨l, s, w, hk, fl, s1, s2, ⟨n1, n2⟩, q1, q2, hw, w0, w1, ⟨l1, l2⟩, b1, b2, z1, z2⟩ := log_l m1 m2 e1 e2 (fun k => by omega)
  obtain ⟨n, r, P, hE, nn1, nn2, fP, P1, P2, g1, g2, ⟨r1, r2⟩, r3, r4, ⟨p1, p2⟩⟩ := exp_q fl b1 b2
  have hpos : P < 2147483648 := by
    apply Int.lt_of_not_ge; intro k
    have := vz_neg fP.1 k
    have := mv_nn (P - 2147483648)
    have := p2_pos 148; omega
  have p0 := fP.1.1
  have pm : P < 2139095040 := by have := fP.2; omega
  have vP := vz_pos fP.1 hpos
  have lo : 1056964608 ≤ P := mv_code_le (by decide) pm p0 (by decide) (by rw [show mv 1056964608 = 2 ^ 148 by decide +kernel]; omega)
  have hi : P ≤ 1073741824 := mv_code_le p0 (by decide) (by decide) pm (by rw [show mv 1073741824 = 2 ^ 150 by decide +kernel]; omega)
  obtain ⟨d, hd⟩ : ∃ d : Int, d = n - e := ⟨_, rfl⟩
  have dq : (d : Rat) = (n : Rat) - (e : Rat) := by rw [hd, Rat.intCast_sub]
  have er1 : -2 ≤ (e : Rat) := by have := cast_le e1; rwa [show ((-2 : Int) : Rat) = -2 by decide +kernel] at this
  have er2 : (e : Rat) ≤ 2 := by have := cast_le e2; rwa [show ((2 : Int) : Rat) = 2 by decide +kernel] at this
  have Yb := abs_rmul (a := q s) (b := 2 + w) (A := 1717 / 10000) (B := 20202 / 10000) s1 s2 (by grind) (by grind)
  rw [← hw] at Yb
  have d1 : d ≤ 1 := by
    apply Int.le_of_not_gt; intro k
    have := cast_le (show 2 ≤ d from k)
    rw [show ((2 : Int) : Rat) = 2 by decide +kernel, dq] at this
    exact d_hi g1 l2 er1 er2 Yb.2 this
  have d2 : -1 ≤ d := by
    apply Int.le_of_not_gt; intro k
    have := cast_le (show d ≤ -2 by omega)
    rw [show ((-2 : Int) : Rat) = -2 by decide +kernel, dq] at this
    exact d_lo g2 l1 er1 er2 Yb.1 this
  have rR : nq (q r) (pev pY (q s) - (d : Rat) * cC) (476 / 1000000000) := r_in dq r1 r2 l1 l2
  obtain ⟨r5, r6⟩ := rR
  have near : -(64 / 16777216) < q (P + d * 8388608) - q m ∧ q (P + d * 8388608) - q m < 64 / 16777216 := by
    have hd3 : d = -1 ∨ d = 0 ∨ d = 1 := by omega
    rcases hd3 with rfl | rfl | rfl
    · -- n = e - 1
      have eP : q P = 2 * q (P + -1 * 8388608) := by
        have := q_up (c := P + -1 * 8388608) (by omega) (by omega)
        rwa [show P + -1 * 8388608 + 8388608 = P by omega] at this
      have ed : ((-1 : Int) : Rat) = -1 := by decide +kernel
      rw [ed] at r5 r6 dq
      have Y1 : pev pY (q s) ≤ -(2598 / 10000) := y_lo g1 g2 l1 er1 er2 dq.symm
      have sb : q s ≤ -(127 / 1000) := by
        apply Classical.byContradiction; intro k
        have := abs_rmul (a := q s + 1272 / 10000) (b := 2 + w) (A := 1) (B := 3) (by grind) (by grind) (by grind) (by grind)
        have k3 := Rat.mul_nonneg (show 0 ≤ q s + 1272 / 10000 by grind) (show 0 ≤ 2 + w by grind)
        grind
      obtain ⟨c1, c2⟩ := case2 (h := q s + 3 / 20) (s := q s) (by grind) (by grind) (by grind)
      have L := lip (a := q r) (b := pev pY (q s) + cC) (D := 476 / 1000000000) (by grind) (by grind) (by clear g1 g2 hw; grind) (by clear g1 g2 hw; grind) (by grind) (by grind)
      generalize pev pE (q r) = E at *
      generalize pev pE (pev pY (q s) + cC) = E0 at *
      generalize q (P + -1 * 8388608) = z at *
      generalize q m = M at *
      generalize q s = S at *
      have k1 : -(64 / 100000000) ≤ (1 / 2 * E0 - M) * (1 - S) ∧ (1 / 2 * E0 - M) * (1 - S) ≤ 64 / 100000000 := by constructor <;> grind
      have k2 : 1 / 2 * E0 - M ≤ 64 / 100000000 := by
        apply Classical.byContradiction; intro k
        have := Rat.mul_le_mul_of_nonneg_left (show (1 : Rat) ≤ 1 - S by grind) (show 0 ≤ 1 / 2 * E0 - M by grind)
        grind
      have k3 : -(64 / 100000000) ≤ 1 / 2 * E0 - M := by
        apply Classical.byContradiction; intro k
        have := Rat.mul_le_mul_of_nonneg_left (show (1 : Rat) ≤ 1 - S by grind) (show 0 ≤ -(1 / 2 * E0 - M) by grind)
        grind
      constructor <;> grind
    · -- n = e
      rw [show P + 0 * 8388608 = P by omega]
      have ed : ((0 : Int) : Rat) = 0 := by decide +kernel
      rw [ed] at r5 r6 dq
      obtain ⟨c1, c2⟩ := case0 s1 s2
      have L := lip (a := q r) (b := pev pY (q s)) (D := 476 / 1000000000) (by grind) (by grind) (by grind) (by grind) (by grind) (by grind)
      generalize pev pE (q r) = E at *
      generalize pev pE (pev pY (q s)) = E0 at *
      generalize q P = z at *
      generalize q m = M at *
      generalize q s = S at *
      have k1 : -(38 / 100000000) ≤ (E0 - M) * (1 - S) ∧ (E0 - M) * (1 - S) ≤ 38 / 100000000 := by constructor <;> grind
      have k2 : E0 - M ≤ 47 / 100000000 := by
        apply Classical.byContradiction; intro k
        have := Rat.mul_le_mul_of_nonneg_left (show (82 / 100 : Rat) ≤ 1 - S by grind) (show 0 ≤ E0 - M by grind)
        grind
      have k3 : -(47 / 100000000) ≤ E0 - M := by
        apply Classical.byContradiction; intro k
        have := Rat.mul_le_mul_of_nonneg_left (show (82 / 100 : Rat) ≤ 1 - S by grind) (show 0 ≤ -(E0 - M) by grind)
        grind
      constructor <;> grind
    · -- n = e + 1
      have eP : q (P + 1 * 8388608) = 2 * q P := by
        have := q_up (c := P) (by omega) (by omega)
        rwa [show P + 8388608 = P + 1 * 8388608 by omega] at this
      have ed : ((1 : Int) : Rat) = 1 := by decide +kernel
      rw [ed] at r5 r6 dq
      have Y1 : 2598 / 10000 ≤ pev pY (q s) := y_hi g1 g2 l2 er1 er2 dq.symm
      have sb : 127 / 1000 ≤ q s := by
        apply Classical.byContradiction; intro k
        have k3 := Rat.mul_nonneg (show 0 ≤ 1272 / 10000 - q s by grind) (show 0 ≤ 2 + w by grind)
        grind
      obtain ⟨c1, c2⟩ := case1 (h := q s - 3 / 20) (s := q s) (by grind) (by grind) (by grind)
      have L := lip (a := q r) (b := pev pY (q s) - cC) (D := 476 / 1000000000) (by grind) (by grind) (by clear g1 g2 hw; grind) (by clear g1 g2 hw; grind) (by grind) (by grind)
      rw [eP]
      generalize pev pE (q r) = E at *
      generalize pev pE (pev pY (q s) - cC) = E0 at *
      generalize q P = z at *
      generalize q m = M at *
      generalize q s = S at *
      have k1 : -(134 / 100000000) ≤ (2 * E0 - M) * (1 - S) ∧ (2 * E0 - M) * (1 - S) ≤ 134 / 100000000 := by constructor <;> grind
      have k2 : 2 * E0 - M ≤ 162 / 100000000 := by
        apply Classical.byContradiction; intro k
        have := Rat.mul_le_mul_of_nonneg_left (show (828 / 1000 : Rat) ≤ 1 - S by grind) (show 0 ≤ 2 * E0 - M by grind)
        grind
      have k3 : -(162 / 100000000) ≤ 2 * E0 - M := by
        apply Classical.byContradiction; intro k
        have := Rat.mul_le_mul_of_nonneg_left (show (828 / 1000 : Rat) ≤ 1 - S by grind) (show 0 ≤ -(2 * E0 - M) by grind)
        grind
      constructor <;> grind
  have hy : expS l = P + n * 8388608 := by rw [hE]; exact scale_code (by omega) pm (by omega) (by omega)
  have dl := qdiff (a := m) (b := P + d * 8388608)
  have dr := qdiff (a := P + d * 8388608) (b := m)
  have lowP : 1056964608 ≤ P + d * 8388608 := by
    apply Int.le_of_not_gt; intro k
    have := q_code (c := P + d * 8388608) (a := 8388608) (b := 1056964608) (by omega) (by omega) (by decide) (by decide) (by omega) (by omega)
    rw [show q 1056964608 = 1 / 2 by decide +kernel] at this
    grind
  refine ⟨l, _, by rw [hl, hk], hy, fl, by omega, by omega, ?_, ?_, fun k => ?_, fun k => ?_⟩
  · have := dr lowP (by omega) (by omega) (by omega) (by grind)
    omega
  · have := dl (by omega) lowP (by omega) (by omega) (by grind)
    omega
  · by_cases k0 : e = 0
    · exact z1 k0 (by omega)
    · have ke : e ≤ -1 := by omega
      have := cast_le ke
      rw [show ((-1 : Int) : Rat) = -1 by decide +kernel] at this
      have hq : q l ≤ q 3196059648 := by
        rw [show q 3196059648 = -(1 / 4) by decide +kernel]; exact l_lo l2 this Yb.2
      have := le_q hq
      rw [show vz 3196059648 = -(2 ^ 147) by decide +kernel] at this
      have := p2_pos 147; omega
  · by_cases k0 : e = 0
    · exact z2 k0 (by omega)
    · have ke : 1 ≤ e := by omega
      have := cast_le ke
      rw [show ((1 : Int) : Rat) = 1 by decide +kernel] at this
      have hq : q 0 ≤ q l := by
        rw [show q 0 = 0 by decide +kernel]; exact l_hi l1 this Yb.1
      have := le_q hq
      rwa [show vz 0 = 0 by decide] at this
end Go.Proofs.Ytkknnloamidaiaa.VI

namespace Go.Proofs.Ytkknnloamidaiaa.VI
set_option linter.unusedVariables false
set_option linter.unusedSimpArgs false
set_option maxRecDepth 100000
set_option maxHeartbeats 8000000
theorem mild2 {k : Int} (h : w32 k) : ∃ v, F_97 2 k = some v ∧ w32 v ∧ (v % 2147483648 = 0 ∨ (1048576000 ≤ v % 2147483648 ∧ v % 2147483648 < 1082130432)) := by
  have k0 := h.1
  have k1 := h.2
  unfold F_97
  rw [bif_eq]
  by_cases h0 : Int.tmod k 7 = 0
  · rw [if_pos h0]; exact ⟨0, rfl, ⟨by decide, by decide⟩, Or.inl rfl⟩
  rw [if_neg h0, zeror_w]
  have hd : Int.tmod (k / 8) 33554432 = k / 8 % 33554432 := tmod_nn (by omega)
  have e : IntKind.wrap .u32 (1048576000 + Int.tmod (k / 8) 33554432) = 1048576000 + k / 8 % 33554432 := by rw [hd, wu32 (by omega)]
  show ∃ v, (bif (bits .and .u32 k 1 == 1) then some (bits .or .u32 (IntKind.wrap .u32 (1048576000 + Int.tmod (k / 8) 33554432)) (sgn 2 true)) else some (IntKind.wrap .u32 (1048576000 + Int.tmod (k / 8) 33554432))) = some v ∧ _
  rw [e]
  cases bits .and .u32 k 1 == 1
  · exact ⟨_, rfl, ⟨by omega, by omega⟩, Or.inr (by omega)⟩
  · refine ⟨2147483648 + (1048576000 + k / 8 % 33554432), ?_, ⟨by omega, by omega⟩, Or.inr (by omega)⟩
    rw [or_comm32, sgn_or 2 true ⟨by omega, by show _ < (2147483648 : Int); omega⟩]; rfl
theorem clr2 {a : Int} (h : w32 a) : bits .andNot .u32 a 2147483648 = a % 2147483648 := by
  have a0 := h.1
  have a1 := h.2
  obtain ⟨y, rfl⟩ : ∃ y : Nat, a = y := ⟨a.toNat, by omega⟩
  have := nat_andNot y 31 (by decide) (by omega)
  have e : bits .andNot .u32 (y : Int) 2147483648 = ((y &&& (4294967295 - 2 ^ 31) : Nat) : Int) := by
    have e2 : bits .andNot .u32 (y : Int) 2147483648 = bits .and .u32 (y : Int) (4294967295 - 2147483648) := by rfl
    rw [e2, show (4294967295 - 2147483648 : Int) = ((4294967295 - 2 ^ 31 : Nat) : Int) by decide]
    exact bits_and rfl (by show y < 4294967296; omega) (by decide)
  rw [e, this]; omega
theorem lt_zero {l : Int} (h : fnt l) : lt 2 l 0 = decide (vz l < 0) := by
  have w := h.1
  have w0 := w.1
  have w1 := w.2
  have f := h.2
  rw [Bool.eq_iff_iff, lt_iff, decide_eq_true_iff]
  have n0 : nan 2 0 = false := by decide
  have z0 : zr 2 0 = true := by decide
  have k0 : ky 2 0 = 0 := by decide
  rw [n0, z0, k0, fin_nan h]
  have hs := sgd w
  constructor
  · rintro ⟨_, _, a, b⟩
    unfold ky at b
    rw [hs, show TT 2 = 2147483648 from rfl] at b
    by_cases c : 2147483648 ≤ l
    · rw [vz_neg w c]
      have : l - 2147483648 ≠ 0 := fun q => a ⟨by rw [zr2]; omega, rfl⟩
      have := mv_lt (a := 0) (b := l - 2147483648) (by decide) (by omega) (by omega)
      rw [mv_zero] at this; omega
    · rw [decide_eq_false c] at b; simp at b; omega
  · intro b
    have c : 2147483648 ≤ l := by
      apply Int.le_of_not_gt; intro c
      rw [vz_pos w c] at b
      have := mv_nn l; omega
    refine ⟨rfl, rfl, ?_, ?_⟩
    · rintro ⟨a, _⟩
      rw [zr2] at a
      rw [vz_neg w c, show l - 2147483648 = 0 by omega, mv_zero] at b
      omega
    · unfold ky; rw [hs, decide_eq_true c, show TT 2 = 2147483648 from rfl]; simp; omega
theorem finr2 {a : Int} (h : fnt a) : F_9a 2 a = some true := by
  have kn := kl_nan 2 a
  have ki := kl_inf 2 a
  have f := h.2
  rw [show TT 2 = 2147483648 from rfl, show IN 2 = 2139095040 from rfl] at kn ki
  unfold F_9a
  rw [classr_eq 2 h.1.1 h.1.2]
  simp only [Option.bind_some]
  congr 1
  apply decide_eq_true
  omega
theorem funcsPairs {a : Int} (h : w32 a) : F_91 a = some true := by
  obtain ⟨v, hv, wv, hm⟩ := mild2 h
  unfold F_91
  rw [known12_eq, hv]
  simp only [Option.bind_some, Bool.not_true, cond_false]
  rw [clr2 wv]
  generalize hx : v % 2147483648 = x at *
  rw [bif_eq]
  by_cases h0 : x = 0
  · rw [if_pos h0, h0, log_eq (x := 0) (wlit rfl)]
    simp only [Option.bind_some]
    rw [show logS 0 = 4286578688 by decide +kernel]; rfl
  rw [if_neg h0]
  have hr : 1048576000 ≤ x ∧ x < 1082130432 := by omega
  have wx : w32 x := ⟨by omega, by omega⟩
  obtain ⟨l, y, hl, hy, fl, y0, y1, d1, d2, g1, g2⟩ := pair_near hr.1 hr.2
  have wy : w32 y := ⟨y0, by omega⟩
  rw [log_eq wx, hl]
  simp only [Option.bind_some]
  rw [exp_eq fl.1, hy]
  simp only [Option.bind_some]
  rw [keyr_eq 2 wy, keyr_eq 2 wx]
  simp only [Option.bind_some]
  have kx : ky 2 x = x := by
    unfold ky; rw [sgd wx, decide_eq_false (by omega), show TT 2 = 2147483648 from rfl]; simp; omega
  have kY : ky 2 y = y := by
    unfold ky; rw [sgd wy, decide_eq_false (by omega), show TT 2 = 2147483648 from rfl]; simp; omega
  rw [kx, kY, wi64 (n := y - x) (by omega)]
  simp only [bif_dec]
  rw [if_pos (by omega), if_pos (by omega), finr2 fl]
  simp only [Option.bind_some, cond_true]
  rw [lessr_eq 2 wx (wlit rfl), lessr_eq 2 fl.1 (wlit rfl), lt_zero fl]
  simp only [Option.bind_some]
  congr 1
  by_cases c : x < 1065353216
  · rw [lt_pos (by omega) (by decide) c, decide_eq_true (g1 c)]; rfl
  · have := g2 (by omega)
    rw [decide_eq_false (show ¬ vz l < 0 by omega)]
    have : lt 2 x 1065353216 = false := by
      rw [Bool.eq_false_iff]; intro k
      rw [lt_iff] at k
      have k := k.2.2.2
      rw [kx, show ky 2 1065353216 = 1065353216 by decide] at k
      omega
    rw [this]; rfl
theorem callFuncsPairs : ∀ l, args [.i .u32] l → oks l → CallOk PR i_91 l [] fun r _ => r = .b true :=
  rowT (fa := fa_91) (F := G_91) rfl rfl ok_91 (enters p_91 (by kernel_rfl) (by kernel_rfl)) rfl fun x hx =>
    funcsPairs ⟨hx.1.1, Int.lt_add_one_of_le hx.1.2⟩
end Go.Proofs.Ytkknnloamidaiaa.VI

namespace Go.Proofs.Ytkknnloamidaiaa.VI
set_option linter.unusedVariables false
set_option linter.unusedSimpArgs false
open Go.ChangeShapes Go.WideShapes Go.RowKit Go.WideElems Ytkknnloamidaiaa
set_option maxRecDepth 100000
theorem laid : laidOutB Try.prog = true := by kernel_rfl
theorem own : ownKnob Try.prog.godebug = none := by kernel_rfl
theorem lifted (os : Os) (started : os.Started) (H : Type) (enc : TypeId × Value → H) :
    ReturnsInHanded {} Try.checked os 4 .any (Rows.funcsPairsSpec.pre6 enc Try.prog Try.f4 Rows.funcsPairsRow.domain false) (Rows.funcsPairsSpec.post enc Try.prog Try.f4 false true false false) :=
  lift_args (C := Try.checked) own started (by kernel_rfl) Try.func4
    (ChangeSpec.witness6 (enc := enc) (C := Try.checked) false ⟨#[], #[.int .u32 0], []⟩ 8 (by kernel_rfl) (by kernel_rfl) (by kernel_rfl) (by kernel_rfl))
    laid Try.underlying4 rfl (by kernel_rfl) rfl (fun ds hd => match ds, hd with
    | [_], _ => rfl) (d := 6) (by kernel_rfl) (Fs := [.i .u32]) (by kernel_rfl) callFuncsPairs
theorem over : Rows.funcsPairsRow.holds Try.pinned (OpenSpec.ofChange Rows.funcsPairsSpec) :=
  OpenClaim.holds_of_wide 4 Try.f4 rfl rfl rfl rfl rfl rfl rfl ⟨rfl, rfl, rfl, rfl, rfl⟩ rfl rfl rfl rfl rfl (by kernel_rfl) Try.func4 (by kernel_rfl)
    (of_decide_eq_true (by kernel_rfl)) (by unfold Func.isWrapper; first | (rw [if_pos (by decide +kernel)]; kernel_rfl) | (rw [if_neg (by decide +kernel)]; exact ⟨rfl, rfl⟩))
    (fun os started H enc _ => lifted os started H enc)
end Go.Proofs.Ytkknnloamidaiaa.VI
