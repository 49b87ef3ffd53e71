import Derived.Test.YtkknnloamidaiaaTfd3689ec
namespace Go.Proofs.Ytkknnloamidaiaa.VI
set_option linter.unusedVariables false
set_option linter.unusedSimpArgs false
set_option linter.unusedSimpArgs false
set_option linter.unusedVariables false
set_option maxRecDepth 100000
set_option maxHeartbeats 4000000
abbrev NumT : Type := Bool × Int × Int × Bool × Unit
theorem full_eq (n : Bool) (e A : Int) (more : Bool) (he : -1000000 < e ∧ e < 1000000) (hA : 0 < A ∧ A < 2 ^ 62) :
    F_sum_full (n, e, A, more, ()) = some (n, e - (61 - lg A), A * 2 ^ (61 - lg A), more, ()) := by
  have hl := lg_bd (k := 62) hA.1 hA.2
  have h64 : w64 A := ⟨by omega, by have : (2 : Int) ^ 62 = 4611686018427387904 := rfl; omega⟩
  have hlt := lg_lt hA.1
  have hle := lg_le hA.1
  have hb : A * 2 ^ (61 - lg A) < 2 ^ 62 := by
    have := Int.mul_lt_mul_of_pos_right hlt (p2_pos (61 - lg A))
    rw [← p2_add, show lg A + 1 + (61 - lg A) = 62 by omega] at this
    exact this
  unfold F_sum_full
  simp only [len_eq h64, Option.bind_some, ln_pos hA.1]
  rw [wi64 (n := 62 - ((lg A : Int) + 1)) (by omega), wi64 (n := 0 - (62 - ((lg A : Int) + 1))) (by omega), wi64 (by omega)]
  have hs : F_bits_Shift A (0 - (62 - ((lg A : Int) + 1))) = some (A * 2 ^ (61 - lg A), false, ()) := by
    by_cases h0 : lg A = 61
    · rw [h0]
      rw [show 0 - (62 - (((61 : Nat) : Int) + 1)) = 0 by omega, shr_eq h64 (by omega)]
      simp
    · have := shl_eq h64 (n := 61 - (lg A : Int)) (by omega) (by
        rw [show (61 - (lg A : Int)).toNat = 61 - lg A by omega]
        have : (2 : Int) ^ 62 = 4611686018427387904 := rfl; omega)
      rw [show 0 - (62 - ((lg A : Int) + 1)) = -(61 - (lg A : Int)) by omega, this]
      rw [show (61 - (lg A : Int)).toNat = 61 - lg A by omega]
  rw [hs]
  simp only [Option.bind_some]
  rw [show e - (62 - ((lg A : Int) + 1)) = e - (61 - lg A) by omega]
def sv (n : Bool) (A : Int) : Int := if n then -A else A
def tot (an : Bool) (ea A : Int) (bn : Bool) (eb B : Int) (z : Int) : Int := sv an (A * 2 ^ (ea + z).toNat) + sv bn (B * 2 ^ (eb + z).toNat)
def Std (r : NumT) (T z : Int) : Prop :=
  w64 r.2.2.1 ∧ (-10000 ≤ r.2.1 ∧ r.2.1 ≤ 10000) ∧ (T = 0 → r.2.2.1 = 0 ∧ r.2.2.2.1 = false) ∧
  (T ≠ 0 → (¬ (r.2.2.1 = 0 ∧ r.2.2.2.1 = false)) ∧ r.1 = decide (T < 0) ∧ ∀ f mode, pk f mode r.1 r.2.1 r.2.2.1 r.2.2.2.1 = pk f mode (decide (T < 0)) (-z) (if T < 0 then -T else T) false)
theorem std_one (n : Bool) (e A z : Int) (he : -5000 ≤ e ∧ e ≤ 5000) (hz : 0 ≤ e + z) (hA : w64 A) : Std (n, e, A, false, ()) (sv n (A * 2 ^ (e + z).toNat)) z := by
  have p := p2_pos (e + z).toNat
  refine ⟨hA, ⟨by simp only; omega, by simp only; omega⟩, fun h => ⟨?_, rfl⟩, fun h => ?_⟩
  · unfold sv at h
    have hm : A * 2 ^ (e + z).toNat = 0 := by split at h <;> omega
    rcases Int.mul_eq_zero.1 hm with k | k
    · exact k
    · omega
  · have hA0 : A ≠ 0 := by intro k; apply h; rw [k]; unfold sv; simp
    have hp : 0 < A * 2 ^ (e + z).toNat := Int.mul_pos (by have := hA.1; omega) p
    have hn : n = decide (sv n (A * 2 ^ (e + z).toNat) < 0) := by
      unfold sv; cases n <;> simp <;> omega
    refine ⟨fun k => hA0 k.1, hn, fun f mode => ?_⟩
    have habs : (if sv n (A * 2 ^ (e + z).toNat) < 0 then -sv n (A * 2 ^ (e + z).toNat) else sv n (A * 2 ^ (e + z).toNat)) = A * 2 ^ (e + z).toNat := by
      unfold sv; cases n <;> simp <;> omega
    rw [habs, ← hn, pk_shift _ _ _ _ _ _ hA.1]
    simp only
    rw [show -z + (((e + z).toNat : Nat) : Int) = e by omega]
theorem std_two (n m : Bool) (ea A eb B z : Int) (hA : 2 ^ 61 ≤ A ∧ A < 2 ^ 62) (hB : 2 ^ 61 ≤ B ∧ B < 2 ^ 62) (hB14 : B % 2 ^ 14 = 0) (he : -5000 ≤ eb ∧ eb ≤ ea ∧ ea ≤ 5000) (hord : eb = ea → B ≤ A) (hz : 0 ≤ eb + z) :
    Std (n, ea, (if n = m then A + B / 2 ^ (ea - eb).toNat else A - B / 2 ^ (ea - eb).toNat - (if B % 2 ^ (ea - eb).toNat ≠ 0 then 1 else 0)), decide (B % 2 ^ (ea - eb).toNat ≠ 0), ())
      (sv n (A * 2 ^ (ea + z).toNat) + sv m (B * 2 ^ (eb + z).toNat)) z := by
  have c61 : (2 : Int) ^ 61 = 2305843009213693952 := rfl
  have c62 : (2 : Int) ^ 62 = 4611686018427387904 := rfl
  have c14 : (2 : Int) ^ 14 = 16384 := rfl
  obtain ⟨d, hd⟩ : ∃ d : Nat, ea = eb + d := ⟨(ea - eb).toNat, by omega⟩
  rw [show (ea - eb).toNat = d by omega]
  have pd := p2_pos d
  have pz := p2_pos (eb + z).toNat
  have hd14 : B % 2 ^ d ≠ 0 → 15 ≤ d := by
    intro h; apply Nat.not_lt.1; intro k; apply h
    have e := mod_p2 B d (14 - d)
    rw [show d + (14 - d) = 14 by omega, hB14] at e
    have n1 := Int.emod_nonneg B (show (2 : Int) ^ d ≠ 0 by omega)
    have n2 : 0 ≤ 2 ^ d * (B / 2 ^ d % 2 ^ (14 - d)) := Int.mul_nonneg (by omega) (Int.emod_nonneg _ (by have := p2_pos (14 - d); omega))
    omega
  have hdiv := Int.emod_add_mul_ediv B (2 ^ d)
  have hm0 := Int.emod_nonneg B (show (2 : Int) ^ d ≠ 0 by omega)
  have hm1 := Int.emod_lt_of_pos B pd
  have hl0 : 0 ≤ B / 2 ^ d := Int.ediv_nonneg (by omega) (by omega)
  have hlow : B / 2 ^ d ≤ B := Int.ediv_le_self _ (by omega)
  have hlow15 : 15 ≤ d → B / 2 ^ d ≤ 140737488355328 := by
    intro k
    have a : B / 2 ^ d ≤ B / 2 ^ 15 := by
      have e : B / 2 ^ d = B / 2 ^ 15 / 2 ^ (d - 15) := by rw [div_p2]; congr 2; omega
      rw [e]; exact Int.ediv_le_self _ (Int.ediv_nonneg (by omega) (by decide))
    rw [show (2 : Int) ^ 15 = 32768 from rfl] at a
    omega
  have hAB : B ≤ A * 2 ^ d := by
    by_cases k : d = 0
    · subst k; simp; exact hord (by omega)
    · have : A * 2 ≤ A * 2 ^ d := Int.mul_le_mul_of_nonneg_left (by have := p2_le (show 1 ≤ d by omega); omega) (by omega)
      omega
  have hdA : B / 2 ^ d ≤ A := by
    have := Int.ediv_le_ediv pd hAB
    rwa [Int.mul_ediv_cancel _ (by omega)] at this
  -- the whole
  have hT : sv n (A * 2 ^ (ea + z).toNat) + sv m (B * 2 ^ (eb + z).toNat) = sv n ((if n = m then A * 2 ^ d + B else A * 2 ^ d - B) * 2 ^ (eb + z).toNat) := by
    rw [show (ea + z).toNat = d + (eb + z).toNat by omega, p2_add, ← Int.mul_assoc]
    unfold sv
    cases n <;> cases m <;> simp [Int.add_mul, Int.sub_mul] <;> omega
  have hS : (if n = m then A + B / 2 ^ d else A - B / 2 ^ d - (if B % 2 ^ d ≠ 0 then 1 else 0)) = (if n = m then A * 2 ^ d + B else A * 2 ^ d - B) / 2 ^ d ∧ (B % 2 ^ d ≠ 0 ↔ (if n = m then A * 2 ^ d + B else A * 2 ^ d - B) % 2 ^ d ≠ 0) := by
    by_cases hnm : n = m
    · rw [if_pos hnm, if_pos hnm, Int.add_comm (A * 2 ^ d), Int.add_mul_ediv_right _ _ (by omega), Int.add_mul_emod_self_right]
      exact ⟨by omega, Iff.rfl⟩
    · rw [if_neg hnm, if_neg hnm]
      generalize hP : (2 : Int) ^ d = P at *
      by_cases h0 : B % P = 0
      · have e : A * P - B = (A - B / P) * P := by rw [Int.sub_mul, Int.mul_comm (B / P)]; omega
        rw [e, Int.mul_ediv_cancel _ (by omega), Int.mul_emod_left]
        simp [h0]
      · have e : A * P - B = (P - B % P) + (A - B / P - 1) * P := by
          rw [Int.sub_mul, Int.sub_mul, Int.mul_comm (B / P)]; omega
        rw [e, Int.add_mul_ediv_right _ _ (by omega), Int.add_mul_emod_self_right]
        rw [Int.ediv_eq_zero_of_lt (a := P - B % P) (b := P) (by omega) (by omega), Int.emod_eq_of_lt (a := P - B % P) (b := P) (by omega) (by omega)]
        rw [if_pos h0]
        exact ⟨by omega, ⟨fun _ => by omega, fun _ => h0⟩⟩
  have hZ0 : 0 ≤ (if n = m then A * 2 ^ d + B else A * 2 ^ d - B) := by
    have := Int.mul_nonneg (show 0 ≤ A by omega) (show (0 : Int) ≤ 2 ^ d by omega)
    split <;> omega
  have hSw : w64 (if n = m then A + B / 2 ^ d else A - B / 2 ^ d - (if B % 2 ^ d ≠ 0 then 1 else 0)) := by
    refine ⟨?_, ?_⟩
    · split
      · omega
      · split
        · rename_i h; have := hlow15 (hd14 h); omega
        · omega
    · split
      · omega
      · split <;> omega
  have hbig : B % 2 ^ d ≠ 0 → 2305843009213693952 - 140737488355328 - 1 ≤ (if n = m then A + B / 2 ^ d else A - B / 2 ^ d - (if B % 2 ^ d ≠ 0 then 1 else 0)) := by
    intro h
    have := hlow15 (hd14 h)
    split
    · omega
    · omega
  rw [hT]
  have hones : decide (B % 2 ^ d ≠ 0) = decide ((if n = m then A * 2 ^ d + B else A * 2 ^ d - B) % 2 ^ d ≠ 0) := decide_eq_decide.2 hS.2
  rw [hones]
  rw [hS.1] at hSw hbig ⊢
  have hbig := fun h => hbig (hS.2.2 h)
  generalize (if n = m then A * 2 ^ d + B else A * 2 ^ d - B) = Z at *
  have hsz : sv n (Z * 2 ^ (eb + z).toNat) = 0 ↔ Z = 0 := by
    constructor
    · intro h
      have hm : Z * 2 ^ (eb + z).toNat = 0 := by unfold sv at h; split at h <;> omega
      rcases Int.mul_eq_zero.1 hm with k | k
      · exact k
      · omega
    · intro h; subst h; unfold sv; simp
  refine ⟨hSw, ⟨by simp only; omega, by simp only; omega⟩, fun h => ?_, fun h => ?_⟩
  · have := hsz.1 h; subst this; simp
  · have hZ : Z ≠ 0 := fun k => h (hsz.2 k)
    have hp : 0 < Z * 2 ^ (eb + z).toNat := Int.mul_pos (by omega) pz
    have hn : n = decide (sv n (Z * 2 ^ (eb + z).toNat) < 0) := by
      unfold sv; cases n <;> simp <;> omega
    refine ⟨fun k => ?_, hn, fun f mode => ?_⟩
    · have k1 : Z / 2 ^ d = 0 := k.1
      have k2 : Z % 2 ^ d = 0 := by simpa using k.2
      have := Int.emod_add_mul_ediv Z (2 ^ d)
      rw [k1, k2] at this; apply hZ; rw [← this]; simp
    have habs : (if sv n (Z * 2 ^ (eb + z).toNat) < 0 then -sv n (Z * 2 ^ (eb + z).toNat) else sv n (Z * 2 ^ (eb + z).toNat)) = Z * 2 ^ (eb + z).toNat := by
      unfold sv; cases n <;> simp <;> omega
    rw [habs, ← hn, pk_shift _ _ _ _ _ _ hZ0]
    simp only
    rw [show -z + (((eb + z).toNat : Nat) : Int) = eb by omega]
    by_cases h0 : Z % 2 ^ d = 0
    · have e : Z = Z / 2 ^ d * 2 ^ d := by
        have := Int.emod_add_mul_ediv Z (2 ^ d); rw [h0, Int.mul_comm] at this; omega
      have := pk_shift f mode n eb (Z / 2 ^ d) d hSw.1
      rw [← e] at this
      rw [this, hd]; simp [h0]
    · have := pk_coarse' f mode n eb Z d (by have := hbig h0; have := fmt_bd f; omega)
      rw [hd]; exact this
end Go.Proofs.Ytkknnloamidaiaa.VI

namespace Go.Proofs.Ytkknnloamidaiaa.VI
set_option linter.unusedVariables false
set_option linter.unusedSimpArgs false
set_option linter.unusedSimpArgs false
set_option linter.unusedVariables false
set_option maxRecDepth 100000
set_option maxHeartbeats 4000000
theorem exact_eq (n m : Bool) (ea A eb B z : Int) (hA : 0 ≤ A ∧ A < 2 ^ 48) (hB : 0 ≤ B ∧ B < 2 ^ 48) (hea : -2000 ≤ ea ∧ ea ≤ 2000) (heb : -2000 ≤ eb ∧ eb ≤ 2000) (hza : 61 ≤ ea + z) (hzb : 61 ≤ eb + z) :
    ∃ r, F_sum_Exact (n, ea, A, false, ()) (m, eb, B, false, ()) = some r ∧ Std r (sv n (A * 2 ^ (ea + z).toNat) + sv m (B * 2 ^ (eb + z).toNat)) z := by
  have c48 : (2 : Int) ^ 48 = 281474976710656 := rfl
  have c62 : (2 : Int) ^ 62 = 4611686018427387904 := rfl
  have c61 : (2 : Int) ^ 61 = 2305843009213693952 := rfl
  unfold F_sum_Exact
  by_cases hA0 : A = 0
  · subst hA0
    refine ⟨_, rfl, ?_⟩
    have := std_one m eb B z (by omega) (by omega) ⟨hB.1, by omega⟩
    have e : sv n (0 * 2 ^ (ea + z).toNat) = 0 := by unfold sv; simp
    rw [e, Int.zero_add]; exact this
  have hAb : (A == 0) = false := by simpa using hA0
  by_cases hB0 : B = 0
  · subst hB0
    simp only [hAb, cond_false]
    refine ⟨_, rfl, ?_⟩
    have := std_one n ea A z (by omega) (by omega) ⟨hA.1, by omega⟩
    have e : sv m (0 * 2 ^ (eb + z).toNat) = 0 := by unfold sv; simp
    rw [e, Int.add_zero]; exact this
  have hBb : (B == 0) = false := by simpa using hB0
  have hAp : 0 < A := by omega
  have hBp : 0 < B := by omega
  have norm : ∀ (A : Int), 0 < A → A < 2 ^ 48 → 2 ^ 61 ≤ A * 2 ^ (61 - lg A) ∧ A * 2 ^ (61 - lg A) < 2 ^ 62 ∧ (A * 2 ^ (61 - lg A)) % 2 ^ 14 = 0 ∧ lg A ≤ 47 := by
    intro A hp hl
    have hg := lg_bd (k := 48) hp hl
    have hlt := lg_lt hp
    have hle := lg_le hp
    refine ⟨?_, ?_, ?_, by omega⟩
    · have := Int.mul_le_mul_of_nonneg_right hle (show (0 : Int) ≤ 2 ^ (61 - lg A) by have := p2_pos (61 - lg A); omega)
      rw [← p2_add, show lg A + (61 - lg A) = 61 by omega] at this
      exact this
    · have := Int.mul_lt_mul_of_pos_right hlt (p2_pos (61 - lg A))
      rw [← p2_add, show lg A + 1 + (61 - lg A) = 62 by omega] at this
      exact this
    · exact mul_p2_mod _ _ _ (by omega)
  have nA := norm A hAp hA.2
  have nB := norm B hBp hB.2
  simp only [hAb, hBb, cond_false, full_eq n ea A false (by omega) ⟨hAp, by omega⟩, full_eq m eb B false (by omega) ⟨hBp, by omega⟩, Option.bind_some]
  have tA : A * 2 ^ (ea + z).toNat = A * 2 ^ (61 - lg A) * 2 ^ (ea - (61 - (lg A : Int)) + z).toNat := by
    rw [Int.mul_assoc, ← p2_add]; congr 2; omega
  have tB : B * 2 ^ (eb + z).toNat = B * 2 ^ (61 - lg B) * 2 ^ (eb - (61 - (lg B : Int)) + z).toNat := by
    rw [Int.mul_assoc, ← p2_add]; congr 2; omega
  rw [tA, tB]
  generalize hxa : ea - (61 - (lg A : Int)) = x at *
  generalize hxb : eb - (61 - (lg B : Int)) = y at *
  have hx : -3000 ≤ x ∧ x ≤ 3000 ∧ 0 ≤ x + z := by omega
  have hy : -3000 ≤ y ∧ y ≤ 3000 ∧ 0 ≤ y + z := by omega
  generalize A * 2 ^ (61 - lg A) = P at *
  generalize B * 2 ^ (61 - lg B) = Q at *
  have lowb : ∀ (d : Nat) (Q : Int), 0 ≤ Q → Q < 2 ^ 62 → 0 ≤ Q / 2 ^ d ∧ Q / 2 ^ d ≤ Q := fun d Q h0 h1 => ⟨Int.ediv_nonneg h0 (by have := p2_pos d; omega), Int.ediv_le_self _ h0⟩
  -- one way round
  have key : ∀ (n m : Bool) (x P y Q : Int), (2 ^ 61 ≤ P ∧ P < 2 ^ 62) → (2 ^ 61 ≤ Q ∧ Q < 2 ^ 62 ∧ Q % 2 ^ 14 = 0) → (-3000 ≤ x ∧ x ≤ 3000) → (-3000 ≤ y ∧ y ≤ 3000 ∧ 0 ≤ y + z) → y ≤ x → (y = x → Q ≤ P) →
      ∃ r, ((F_bits_Shift Q (IntKind.i64.wrap (x - y))).bind fun r14 =>
          bif n == m then
            some (n, x, IntKind.u64.wrap (P + r14.1), r14.2)
          else
            bif r14.2.1 then
              some (n, x, IntKind.u64.wrap (IntKind.u64.wrap (P - r14.1) - 1), r14.2)
            else
              some (n, x, IntKind.u64.wrap (P - r14.1), r14.2)) = some r ∧ Std r (sv n (P * 2 ^ (x + z).toNat) + sv m (Q * 2 ^ (y + z).toNat)) z := by
    intro n m x P y Q hP hQ hx hy hyx hord
    have st := std_two n m x P y Q z hP ⟨hQ.1, hQ.2.1⟩ hQ.2.2 (by omega) hord (by omega)
    have lb := lowb (x - y).toNat Q (by omega) hQ.2.1
    refine ⟨_, ?_, st⟩
    rw [wi64 (by omega), shr_eq ⟨by omega, by omega⟩ (by omega)]
    simp only [Option.bind_some]
    have sw := st.1
    simp only at sw
    by_cases hnm : n = m
    · subst hnm
      simp only [if_true, BEq.rfl, cond_true]
      rw [wu64 (by omega)]
    · have hb : (n == m) = false := by simpa using hnm
      simp only [if_neg hnm, hb, cond_false] at sw ⊢
      by_cases ho : Q % 2 ^ (x - y).toNat = 0
      · simp only [ho] at sw ⊢
        simp at sw ⊢
        rw [wu64 (by omega)]
      · have : decide (Q % 2 ^ (x - y).toNat ≠ 0) = true := by simpa using ho
        rw [if_pos ho] at sw
        rw [this, if_pos ho, wu64 (n := P - Q / 2 ^ (x - y).toNat) (by omega), wu64 (by omega)]; rfl
  have sw1 : ∀ {a b : Option NumT} {T : Int} {p : Bool}, (∃ r, a = some r ∧ Std r T z) → (∃ r, b = some r ∧ Std r T z) → ∃ r, (bif p then a else b) = some r ∧ Std r T z := by
    intro a b T p ha hb; cases p
    · exact hb
    · exact ha
  by_cases h1 : x < y
  · rw [decide_eq_true h1]
    simp only [cond_true]
    have := key m n y Q x P ⟨nB.1, nB.2.1⟩ ⟨nA.1, nA.2.1, nA.2.2.1⟩ ⟨hy.1, hy.2.1⟩ ⟨hx.1, hx.2.1, hx.2.2⟩ (by omega) (by omega)
    rw [Int.add_comm]; exact this
  · rw [decide_eq_false h1]
    simp only [cond_false]
    by_cases h2 : x = y
    · have : (x == y) = true := by simpa using h2
      rw [this]
      simp only [cond_true]
      by_cases h3 : P < Q
      · rw [decide_eq_true h3]
        simp only [cond_true]
        have := key m n y Q x P ⟨nB.1, nB.2.1⟩ ⟨nA.1, nA.2.1, nA.2.2.1⟩ ⟨hy.1, hy.2.1⟩ ⟨hx.1, hx.2.1, hx.2.2⟩ (by omega) (by omega)
        rw [Int.add_comm]; exact this
      · rw [decide_eq_false h3]
        simp only [cond_false]
        exact key n m x P y Q ⟨nA.1, nA.2.1⟩ ⟨nB.1, nB.2.1, nB.2.2.1⟩ ⟨hx.1, hx.2.1⟩ ⟨hy.1, hy.2.1, hy.2.2⟩ (by omega) (by omega)
    · have : (x == y) = false := by simpa using h2
      rw [this]
      simp only [cond_false]
      exact key n m x P y Q ⟨nA.1, nA.2.1⟩ ⟨nB.1, nB.2.1, nB.2.2.1⟩ ⟨hx.1, hx.2.1⟩ ⟨hy.1, hy.2.1, hy.2.2⟩ (by omega) (by omega)
end Go.Proofs.Ytkknnloamidaiaa.VI

namespace Go.Proofs.Ytkknnloamidaiaa.VI
set_option linter.unusedVariables false
set_option linter.unusedSimpArgs false
set_option linter.unusedSimpArgs false
set_option linter.unusedVariables false
set_option maxRecDepth 100000
set_option maxHeartbeats 4000000
def vl (x : WdT) : Int := vf (lm x.2.1) 10
theorem vl_bd {x : WdT} (h : wd x) : 0 ≤ vl x ∧ vl x < 2 ^ 640 := vf_bd h.2
theorem wd_eta (x : WdT) : (x.1, x.2.1, ()) = x := rfl
theorem dm_w (x y : Nat → Int) (i : Nat) : w64 (dm x y i) := by unfold dm; exact ⟨by omega, by omega⟩
theorem dg_w (x y : Nat → Int) (i : Nat) : w64 (dg x y i) := by unfold dg; exact ⟨by omega, by omega⟩
theorem range_wd (n : Bool) (d : Nat → Int) (h : ∀ i, w64 (d i)) : wd (n, (List.range 10).map d, ()) ∧ vl (n, (List.range 10).map d, ()) = vf d 10 :=
  ⟨⟨by simp, fun i hi => by rw [lm_range d hi]; exact h i⟩, vf_congr fun i hi => lm_range d hi⟩
theorem minus_eq {x y : WdT} (hx : wd x) (hy : wd y) : ∃ r, F_annealref1_minus x y = some r ∧ wd r ∧
    ((vl x < vl y → r.1 = y.1 ∧ vl r = vl y - vl x) ∧ (¬ vl x < vl y → r.1 = x.1 ∧ vl r = vl x - vl y)) := by
  have hb := below_eq hx hy
  unfold F_annealref1_minus
  simp only [len10 hx.1, len10 hy.1]
  rw [show (x.1, x.2.1, ()) = x from rfl, show (y.1, y.2.1, ()) = y from rfl, hb]
  simp only [Option.bind_some]
  have bx := vl_bd hx
  have by' := vl_bd hy
  by_cases h : vl x < vl y
  · have h' : vf (lm x.2.1) 10 < vf (lm y.2.1) 10 := h
    rw [decide_eq_true h']
    simp only [cond_true]
    rw [minus_loop y.1 x.1 y.2.1 x.2.1 _ hy.1 hx.1 hy.2 hx.2]
    simp only [Option.bind_some]
    have hl : ((List.range 10).map (dm (lm y.2.1) (lm x.2.1))).length = 10 := by simp
    simp only [len10 hl]
    rw [show (List.map (dm (lm y.2.1) (lm x.2.1)) (List.range 10)).length = 10 from hl]
    rw [bif_dec, if_pos (by decide), bif_dec, if_pos (by decide)]
    have rw_ := range_wd y.1 (dm (lm y.2.1) (lm x.2.1)) (dm_w _ _)
    refine ⟨_, rfl, rw_.1, fun _ => ⟨rfl, ?_⟩, fun n => absurd h n⟩
    rw [rw_.2]
    have s := sub_vf (n := 10) hy.2 hx.2
    have b := bw_bd (lm y.2.1) (lm x.2.1) 10
    have d := vf_bd (n := 10) (g := dm (lm y.2.1) (lm x.2.1)) fun i _ => dm_w _ _ i
    unfold vl at h ⊢
    have e : bw (lm y.2.1) (lm x.2.1) 10 = 0 := by
      rcases (show bw (lm y.2.1) (lm x.2.1) 10 = 0 ∨ bw (lm y.2.1) (lm x.2.1) 10 = 1 by omega) with k | k
      · exact k
      · rw [k] at s; omega
    rw [e] at s; omega
  · have h' : ¬ vf (lm x.2.1) 10 < vf (lm y.2.1) 10 := h
    rw [decide_eq_false h']
    simp only [cond_false]
    rw [minus_loop x.1 y.1 x.2.1 y.2.1 _ hx.1 hy.1 hx.2 hy.2]
    simp only [Option.bind_some]
    have hl : ((List.range 10).map (dm (lm x.2.1) (lm y.2.1))).length = 10 := by simp
    simp only [len10 hl]
    rw [show (List.map (dm (lm x.2.1) (lm y.2.1)) (List.range 10)).length = 10 from hl]
    rw [bif_dec, if_pos (by decide), bif_dec, if_pos (by decide)]
    have rw_ := range_wd x.1 (dm (lm x.2.1) (lm y.2.1)) (dm_w _ _)
    refine ⟨_, rfl, rw_.1, fun n => absurd n h, fun _ => ⟨rfl, ?_⟩⟩
    rw [rw_.2]
    have s := sub_vf (n := 10) hx.2 hy.2
    have b := bw_bd (lm x.2.1) (lm y.2.1) 10
    have d := vf_bd (n := 10) (g := dm (lm x.2.1) (lm y.2.1)) fun i _ => dm_w _ _ i
    unfold vl at h ⊢
    have e : bw (lm x.2.1) (lm y.2.1) 10 = 0 := by
      rcases (show bw (lm x.2.1) (lm y.2.1) 10 = 0 ∨ bw (lm x.2.1) (lm y.2.1) 10 = 1 by omega) with k | k
      · exact k
      · rw [k] at s; omega
    rw [e] at s; omega
theorem plus_eq {x y : WdT} (hx : wd x) (hy : wd y) (hov : vl x + vl y < 2 ^ 640) : ∃ r, F_annealref1_plus x y = some r ∧ wd r ∧ sv r.1 (vl r) = sv x.1 (vl x) + sv y.1 (vl y) := by
  unfold F_annealref1_plus
  simp only [len10 hx.1, len10 hy.1]
  rw [show (x.1, x.2.1, ()) = x from rfl, show (y.1, y.2.1, ()) = y from rfl]
  by_cases h : x.1 = y.1
  · have : (!(x.1 == y.1)) = false := by simpa using h
    rw [this]
    simp only [cond_false]
    rw [plus_loop x.1 y.1 x.2.1 y.2.1 _ hx.1 hy.1 hx.2 hy.2]
    simp only [Option.bind_some]
    have hl : ((List.range 10).map (dg (lm x.2.1) (lm y.2.1))).length = 10 := by simp
    simp only [len10 hl]
    rw [show (List.map (dg (lm x.2.1) (lm y.2.1)) (List.range 10)).length = 10 from hl]
    rw [bif_dec, if_pos (by decide), bif_dec, if_pos (by decide)]
    have rw_ := range_wd x.1 (dg (lm x.2.1) (lm y.2.1)) (dg_w _ _)
    refine ⟨_, rfl, rw_.1, ?_⟩
    rw [rw_.2]
    have s := add_vf (lm x.2.1) (lm y.2.1) 10
    have b := cr_bd (n := 10) hx.2 hy.2
    have d := vf_bd (n := 10) (g := dg (lm x.2.1) (lm y.2.1)) fun i _ => dg_w _ _ i
    unfold vl at hov ⊢
    have e : cr (lm x.2.1) (lm y.2.1) 10 = 0 := by
      rcases (show cr (lm x.2.1) (lm y.2.1) 10 = 0 ∨ cr (lm x.2.1) (lm y.2.1) 10 = 1 by omega) with k | k
      · exact k
      · rw [k] at s; omega
    rw [e] at s
    simp only
    rw [← h]
    unfold sv; split <;> omega
  · have : (!(x.1 == y.1)) = true := by simpa using h
    rw [this]
    simp only [cond_true]
    obtain ⟨r, hr, wr, h1, h2⟩ := minus_eq hx hy
    rw [hr]
    simp only [Option.bind_some, len10 wr.1]
    refine ⟨_, rfl, wr, ?_⟩
    rw [show (r.1, r.2.1, ()) = r from rfl]
    by_cases k : vl x < vl y
    · have := h1 k
      rw [this.1, this.2]
      unfold sv
      cases hx1 : x.1 <;> cases hy1 : y.1 <;> simp [hx1, hy1] at h ⊢ <;> omega
    · have := h2 k
      rw [this.1, this.2]
      unfold sv
      cases hx1 : x.1 <;> cases hy1 : y.1 <;> simp [hx1, hy1] at h ⊢ <;> omega
theorem rounded_top (f mode : Int) (xn : Bool) (X : List Int) (z : ExcT) (hX : X.length = 10) (wX : ∀ i, i < 10 → w64 (lm X i)) : ∀ i : Nat, i < 10 → vf (lm X) (i + 1) ≠ 0 →
    ∃ j : Nat, j ≤ i ∧ lm X j ≠ 0 ∧ vf (lm X) (i + 1) = vf (lm X) (j + 1) ∧ lim st_annealref1_rounded_0 ((f, (mode, ((i : Int), ()))), (((xn, ()), X), (z, ()))) = some ((f, (mode, ((j : Int), ()))), (((xn, ()), X), (z, ())))
  | i, hi, hv => by
    by_cases h0 : lm X i = 0
    · match i, hi, hv, h0 with
      | 0, hi, hv, h0 => simp only [vf] at hv; rw [h0] at hv; simp at hv
      | i + 1, hi, hv, h0 =>
        have e : vf (lm X) (i + 1 + 1) = vf (lm X) (i + 1) := by
          show vf (lm X) (i + 1) + lm X (i + 1) * 2 ^ (64 * (i + 1)) = _
          rw [h0]; simp
        obtain ⟨j, h1, h2, h3, h4⟩ := rounded_top f mode xn X z hX wX i (by omega) (by rw [← e]; exact hv)
        refine ⟨j, by omega, h2, by rw [e]; exact h3, ?_⟩
        rw [lim_step (v' := ((f, (mode, ((i : Int), ()))), (((xn, ()), X), (z, ())))) (fun R kn ko => by
          have e1 : ((1:Nat) + ((Int.toNat (((i + 1 : Nat) : Int))) * (1:Nat))) - 1 = i + 1 := by omega
          unfold st_annealref1_rounded_0
          dsimp only
          simp only [hX, bif_dec, e1]
          rw [if_pos (by omega), if_pos (by omega)]
          have : (X.getD (i + 1) 0 == 0) = true := by simpa [lm] using h0
          rw [this, wi64 (by omega), show ((i + 1 : Nat) : Int) - 1 = (i : Int) by omega]; rfl)]
        exact h4
    · refine ⟨i, Nat.le_refl _, h0, rfl, lim_done (fun R kn ko => ?_)⟩
      have e1 : ((1:Nat) + ((Int.toNat (((i : Nat) : Int))) * (1:Nat))) - 1 = i := by omega
      unfold st_annealref1_rounded_0
      dsimp only
      simp only [hX, bif_dec, e1]
      rw [if_pos (by omega), if_pos (by omega)]
      have : (X.getD i 0 == 0) = false := by simpa [lm] using h0
      rw [this]; rfl
theorem rounded_low (f mode : Int) (xn : Bool) (X : List Int) (z : ExcT) (j : Nat) (sg ex : Int) (more : Bool) (hX : X.length = 10) (wX : ∀ i, i < 10 → w64 (lm X i)) (hj : j < 10) (hj1 : 1 ≤ j) :
    lim st_annealref1_rounded_1 ((f, (mode, ((j : Int), (sg, (ex, (more, ((0:Int), ()))))))), (((xn, ()), X), (z, ()))) = some ((f, (mode, (sg, (ex, (more || decide (vf (lm X) (j - 1) ≠ 0), ()))))), (((xn, ()), X), (z, ()))) := by
  have := lim_seq (st := st_annealref1_rounded_1) (fun i => ((f, (mode, ((j : Int), (sg, (ex, (more || decide (vf (lm X) i ≠ 0), ((i : Int), ()))))))), (((xn, ()), X), (z, ()))))
    (b := ((f, (mode, (sg, (ex, (more || decide (vf (lm X) (j - 1) ≠ 0), ()))))), (((xn, ()), X), (z, ())))) (j - 1)
    (fun i hi R kn ko => by
      have e1 : ((1:Nat) + ((Int.toNat (((i : Nat) : Int))) * (1:Nat))) - 1 = i := by omega
      have a := wX i (by omega)
      have b := vf_bd (n := i) (g := lm X) fun k hk => wX k (by omega)
      have p := p2_pos (64 * i)
      have c : 0 ≤ lm X i * 2 ^ (64 * i) := Int.mul_nonneg a.1 (by omega)
      unfold st_annealref1_rounded_1
      dsimp only
      rw [wi64 (n := (j : Int) - 1) (by omega), wi64 (n := (i : Int) + 1) (by omega), show ((i + 1 : Nat) : Int) = (i : Int) + 1 by omega, bif_dec, if_pos (by omega)]
      by_cases k : (more || decide (vf (lm X) i ≠ 0)) = true
      · have k2 : (more || decide (vf (lm X) (i + 1) ≠ 0)) = true := by
          cases more
          · simp at k ⊢; simp only [vf]; omega
          · rfl
        rw [k, k2]; rfl
      · have k1 : more = false ∧ vf (lm X) i = 0 := by simpa using k
        simp only [hX, bif_dec, e1]
        have k3 : (more || decide (vf (lm X) i ≠ 0)) = false := by simp [k1.1, k1.2]
        rw [k3, if_pos (by omega), if_pos (by omega)]
        have k4 : (X.getD i 0 != 0) = (more || decide (vf (lm X) (i + 1) ≠ 0)) := by
          rw [k1.1]
          show (lm X i != 0) = _
          have ev : vf (lm X) (i + 1) = lm X i * 2 ^ (64 * i) := by simp only [vf]; omega
          have q := Int.mul_eq_zero (a := lm X i) (b := 2 ^ (64 * i))
          rw [Bool.eq_iff_iff]
          simp only [bne_iff_ne, Bool.false_or, decide_eq_true_eq]
          rw [ev]
          constructor
          · intro n m; rcases q.1 m with r | r
            · exact n r
            · omega
          · intro n m; apply n; rw [m]; simp
        rw [k4]; rfl)
    (fun R kn ko => by
      unfold st_annealref1_rounded_1
      dsimp only
      rw [wi64 (n := (j : Int) - 1) (by omega), bif_dec, if_neg (by omega)])
  have e0 : (more || decide (vf (lm X) 0 ≠ 0)) = more := by simp [vf]
  rw [e0] at this
  exact this
theorem or_join64' (x y : Int) (k : Nat) (h0 : 0 ≤ x) (h1 : x < 18446744073709551616) (h2 : 0 ≤ y) (h3 : y < 2 ^ k) (hk : k ≤ 64) (hx : x % 2 ^ k = 0) : bits .or .u64 x y = x + y := or_join64 x y k h0 h1 h2 h3 hk hx
theorem rounded_eq (f mode : Int) {x : WdT} (hx : wd x) (hv : vl x ≠ 0) : F_annealref1_rounded f mode x = some (pk f mode x.1 (-298) (vl x) false) := by
  unfold F_annealref1_rounded
  rw [len10 hx.1]
  obtain ⟨j, hj, hn, hval, hlim⟩ := rounded_top f mode x.1 x.2.1 EXC0 hx.1 hx.2 9 (by omega) hv
  have hlim' : lim st_annealref1_rounded_0 ((f, (mode, ((9:Int), ()))), (((x.1, ()), x.2.1), ((false, (false, (false, (false, (false, ()))))), ()))) = _ := hlim
  rw [hlim']
  have wj := hx.2 j (by omega)
  have e1 : ((1:Nat) + ((Int.toNat ((j : Nat) : Int)) * (1:Nat))) - 1 = j := by omega
  have hg : x.2.1.getD j 0 = lm x.2.1 j := rfl
  have hvj : vl x = vf (lm x.2.1) j + lm x.2.1 j * 2 ^ (64 * j) := hval
  have hp : 0 < lm x.2.1 j := by have := wj.1; omega
  have l64 := lg_bd (k := 64) hp (by have : (2 : Int) ^ 64 = 18446744073709551616 := rfl; have := wj.2; omega)
  simp only [Option.bind_some, hx.1, e1, hg, bif_dec]
  rw [if_pos (by omega), if_pos (by omega), lenr_eq wj]
  simp only [Option.bind_some]
  rw [if_pos (by omega), if_pos (by omega), ln_pos hp, wi64 (n := 64 * (j : Int)) (by omega), wi64 (n := 64 * (j : Int) - 298) (by omega)]
  by_cases j0 : j = 0
  · subst j0
    rw [if_neg (by omega), packr_eq f mode _ _ wj]
    simp only [Option.bind_some]
    have hm : min (max (64 * ((0 : Nat) : Int) - 298) (-10000)) 10000 = -298 := by omega
    rw [hvj, hm]
    simp [vf]
  rw [if_pos (by omega)]
  obtain ⟨i, rfl⟩ : ∃ i, j = i + 1 := ⟨j - 1, by omega⟩
  have wi_ := hx.2 i (by omega)
  have e2 : ((1:Nat) + ((Int.toNat (((i + 1 : Nat) : Int) - 1)) * (1:Nat))) - 1 = i := by omega
  have hg2 : x.2.1.getD i 0 = lm x.2.1 i := rfl
  simp only [wi64 (n := ((i + 1 : Nat) : Int) - 1) (show -9223372036854775808 ≤ ((i + 1 : Nat) : Int) - 1 ∧ ((i + 1 : Nat) : Int) - 1 ≤ 9223372036854775807 by omega), e2, hg2]
  have hlow := fun sg ex more => rounded_low f mode x.1 x.2.1 EXC0 (i + 1) sg ex more hx.1 hx.2 (by omega) (by omega)
  rw [show i + 1 - 1 = i by omega] at hlow
  have hlt := lg_lt hp
  have hle := lg_le hp
  have b := vf_bd (n := i) (g := lm x.2.1) fun k hk => hx.2 k (by omega)
  have hvi : vl x = vf (lm x.2.1) i + lm x.2.1 i * 2 ^ (64 * i) + lm x.2.1 (i + 1) * 2 ^ (64 * (i + 1)) := hvj
  generalize lm x.2.1 (i + 1) = H at *
  generalize lm x.2.1 i = L at *
  generalize vf (lm x.2.1) i = low at *
  generalize hn' : lg H + 1 = n at *
  have hlg : (lg H : Int) + 1 = n := by omega
  rw [hlg]
  have w1 : IntKind.i64.wrap (64 - (n : Int)) = 64 - n := wi64 (by omega)
  simp only [w1, bif_eq]
  rw [if_pos (by omega), if_pos (by omega), if_pos (by omega), if_pos (by omega)]
  have ht : (64 - (n : Int)).toNat = 64 - n := by omega
  rw [show (min (64 - (n : Int)).toNat 64) = 64 - n by omega, show (min ((n : Int)).toNat 64) = n by omega]
  have pk_ := p2_pos (64 - n)
  have pn := p2_pos n
  have psplit : (2 : Int) ^ (64 - n) * 2 ^ n = 18446744073709551616 := by rw [← p2_add, show 64 - n + n = 64 by omega]; rfl
  have hHk : H * 2 ^ (64 - n) < 18446744073709551616 := by
    have := Int.mul_lt_mul_of_pos_right hlt pk_
    rw [Int.mul_comm (2 ^ n), psplit] at this; exact this
  have hHk0 : 0 ≤ H * 2 ^ (64 - n) := Int.mul_nonneg (by omega) (by omega)
  have hLn : 0 ≤ L / 2 ^ n ∧ L / 2 ^ n < 2 ^ (64 - n) := by
    refine ⟨Int.ediv_nonneg wi_.1 (by omega), ?_⟩
    rw [Int.ediv_lt_iff_lt_mul pn, psplit]; exact wi_.2
  have hor : bits .or .u64 (IntKind.u64.wrap (H * 2 ^ (64 - n))) (L / 2 ^ n) = H * 2 ^ (64 - n) + L / 2 ^ n := by
    rw [wu64 (by omega)]
    exact or_join64 _ _ (64 - n) hHk0 hHk hLn.1 hLn.2 (by omega) (Int.mul_emod_left _ _)
  -- the number cut at 64 i + n
  have pi := p2_pos (64 * i)
  have hV : vl x = (H * 2 ^ (64 - n) + L / 2 ^ n) * 2 ^ (64 * i + n) + ((L % 2 ^ n) * 2 ^ (64 * i) + low) := by
    have d := Int.emod_add_mul_ediv L (2 ^ n)
    rw [hvi, show 64 * (i + 1) = (64 - n) + (64 * i + n) by omega, p2_add (64 - n), p2_add (64 * i) n, Int.add_mul, Int.mul_assoc H]
    have : L * 2 ^ (64 * i) = (L / 2 ^ n) * (2 ^ (64 * i) * 2 ^ n) + (L % 2 ^ n) * 2 ^ (64 * i) := by
      rw [Int.mul_comm (2 ^ (64 * i)) (2 ^ n), ← Int.mul_assoc, ← Int.add_mul]; congr 1; rw [Int.mul_comm (L / 2 ^ n)]; omega
    omega
  have hLm := Int.emod_nonneg L (show (2 : Int) ^ n ≠ 0 by omega)
  have hLm2 := Int.emod_lt_of_pos L pn
  have hR : 0 ≤ (L % 2 ^ n) * 2 ^ (64 * i) + low ∧ (L % 2 ^ n) * 2 ^ (64 * i) + low < 2 ^ (64 * i + n) := by
    have a := Int.mul_nonneg hLm (show (0 : Int) ≤ 2 ^ (64 * i) by omega)
    have c : (L % 2 ^ n + 1) * 2 ^ (64 * i) ≤ 2 ^ n * 2 ^ (64 * i) := Int.mul_le_mul_of_nonneg_right (by omega) (by omega)
    rw [Int.add_mul, ← p2_add, show n + 64 * i = 64 * i + n by omega] at c
    omega
  have pin := p2_pos (64 * i + n)
  have hdiv : vl x / 2 ^ (64 * i + n) = H * 2 ^ (64 - n) + L / 2 ^ n := by
    rw [hV, Int.add_comm, Int.add_mul_ediv_right _ _ (by omega), Int.ediv_eq_zero_of_lt hR.1 hR.2]; omega
  have hmod : vl x % 2 ^ (64 * i + n) = (L % 2 ^ n) * 2 ^ (64 * i) + low := by
    rw [hV, Int.add_comm, Int.add_mul_emod_self_right, Int.emod_eq_of_lt hR.1 hR.2]
  have hbig : 9223372036854775808 ≤ H * 2 ^ (64 - n) := by
    have := Int.mul_le_mul_of_nonneg_right hle (show (0 : Int) ≤ 2 ^ (64 - n) by omega)
    rw [← p2_add, show lg H + (64 - n) = 63 by omega] at this
    exact this
  have hmore : (decide (L % 2 ^ n ≠ 0) || decide (low ≠ 0)) = decide (vl x % 2 ^ (64 * i + n) ≠ 0) := by
    rw [hmod]
    have a := Int.mul_nonneg hLm (show (0 : Int) ≤ 2 ^ (64 * i) by omega)
    by_cases q : L % 2 ^ n = 0
    · rw [q]; simp
    · have : 0 < L % 2 ^ n * 2 ^ (64 * i) := Int.mul_pos (by omega) pi
      have t : decide ((L % 2 ^ n) * 2 ^ (64 * i) + low ≠ 0) = true := by simp; omega
      rw [t]; simp [q]
  have hpk := pk_coarse' f mode x.1 (-298) (vl x) (64 * i + n) (by rw [hdiv]; have := fmt_bd f; omega)
  rw [hdiv, ← hmore] at hpk
  have hexp : IntKind.i64.wrap (64 * ((i + 1 : Nat) : Int) - 298 - (64 - n)) = -298 + ((64 * i + n : Nat) : Int) := by rw [wi64 (by omega)]; omega
  rw [hor, hexp]
  have hsw : w64 (H * 2 ^ (64 - n) + L / 2 ^ n) := by
    refine ⟨by omega, ?_⟩
    have c : (H + 1) * 2 ^ (64 - n) ≤ 2 ^ n * 2 ^ (64 - n) := Int.mul_le_mul_of_nonneg_right (by omega) (by omega)
    rw [Int.add_mul, Int.mul_comm (2 ^ n), psplit] at c
    omega
  have hfin : ∀ (S : Int) (m : Bool), S = H * 2 ^ (64 - n) + L / 2 ^ n → m = decide (L % 2 ^ n ≠ 0) →
      ((lim st_annealref1_rounded_1 ((f, (mode, (((i + 1 : Nat) : Int), (S, (-298 + ((64 * i + n : Nat) : Int), (m, ((0:Int), ()))))))), (((x.1, ()), x.2.1), (EXC0, ())))).bind fun r13 =>
        (F_annealref1_Pack r13.1.1 r13.1.2.1 r13.2.1.1.1 r13.1.2.2.2.1 r13.1.2.2.1 r13.1.2.2.2.2.1).bind fun r14 => some r14) = some (pk f mode x.1 (-298) (vl x) false) := by
    intro S m hS hm
    rw [hlow, hS, hm]
    simp only [Option.bind_some]
    rw [packr_eq f mode _ _ hsw]
    simp only [Option.bind_some]
    rw [show min (max (-298 + ((64 * i + n : Nat) : Int)) (-10000)) 10000 = -298 + ((64 * i + n : Nat) : Int) by omega, hpk]
  by_cases h64 : (n : Int) = 64
  · have : n = 64 := by omega
    subst this
    have c64 : (2 : Int) ^ 64 = 18446744073709551616 := rfl
    rw [if_pos h64, if_pos (by omega), if_pos (by omega), if_pos (by omega), if_pos (by omega), if_neg (by omega)]
    refine hfin _ _ ?_ ?_
    · rw [Int.ediv_eq_zero_of_lt wi_.1 (by have := wi_.2; omega)]; simp
    · rw [Int.emod_eq_of_lt wi_.1 (by have := wi_.2; omega)]; rw [Bool.eq_iff_iff]; simp
  · rw [if_neg h64, if_pos (by omega), if_pos (by omega), if_pos (by omega), if_pos (by omega)]
    refine hfin _ _ rfl ?_
    have e := mul_p2_mod' L (64 - n) 64 (by omega)
    rw [show 64 - (64 - n) = n by omega, show (2 : Int) ^ 64 = 18446744073709551616 from rfl] at e
    rw [wu64_eq, e, Bool.eq_iff_iff]
    have q := Int.mul_eq_zero (a := 2 ^ (64 - n)) (b := L % 2 ^ n)
    simp only [bne_iff_ne, decide_eq_true_eq]
    constructor
    · intro a b; apply a; rw [b]; simp
    · intro a b; rcases q.1 b with r | r
      · omega
      · exact a r
end Go.Proofs.Ytkknnloamidaiaa.VI

namespace Go.Proofs.Ytkknnloamidaiaa.VI
set_option linter.unusedVariables false
set_option linter.unusedSimpArgs false
set_option linter.unusedSimpArgs false
set_option linter.unusedVariables false
set_option maxRecDepth 100000
set_option maxHeartbeats 4000000
theorem vl10 (n : Bool) (a b c d e f g h i j : Int) : vl (n, [a, b, c, d, e, f, g, h, i, j], ()) = 0 + a * 2 ^ (64 * 0) + b * 2 ^ (64 * 1) + c * 2 ^ (64 * 2) + d * 2 ^ (64 * 3) + e * 2 ^ (64 * 4) + f * 2 ^ (64 * 5) + g * 2 ^ (64 * 6) + h * 2 ^ (64 * 7) + i * 2 ^ (64 * 8) + j * 2 ^ (64 * 9) := rfl
theorem two_sh (a b : Int) (i : Nat) : (a + b * 2 ^ 64) * 2 ^ (64 * i) = a * 2 ^ (64 * i) + b * 2 ^ (64 * (i + 1)) := by
  rw [Int.add_mul, Int.mul_assoc, ← p2_add, Nat.mul_add, Nat.mul_one, Nat.add_comm]
theorem wd10 (n : Bool) {a b c d e f g h i j : Int} (h0 : w64 a) (h1 : w64 b) (h2 : w64 c) (h3 : w64 d) (h4 : w64 e) (h5 : w64 f) (h6 : w64 g) (h7 : w64 h) (h8 : w64 i) (h9 : w64 j) : wd (n, [a, b, c, d, e, f, g, h, i, j], ()) := by
  refine ⟨rfl, fun k hk => ?_⟩
  match k, hk with
  | 0, _ => exact h0
  | 1, _ => exact h1
  | 2, _ => exact h2
  | 3, _ => exact h3
  | 4, _ => exact h4
  | 5, _ => exact h5
  | 6, _ => exact h6
  | 7, _ => exact h7
  | 8, _ => exact h8
  | 9, _ => exact h9
theorem w64_0 : w64 0 := ⟨by decide, by decide⟩
theorem set_two (n : Bool) (a b : Int) (ha : w64 a) (hb : w64 b) (i : Nat) (hi : i < 9) :
    wd (n, (List.set [(0:Int), 0, 0, 0, 0, 0, 0, 0, 0, 0] i a).set (i + 1) b, ()) ∧ vl (n, (List.set [(0:Int), 0, 0, 0, 0, 0, 0, 0, 0, 0] i a).set (i + 1) b, ()) = (a + b * 2 ^ 64) * 2 ^ (64 * i) := by
  have z := w64_0
  match i, hi with
  | 0, _ => exact ⟨wd10 n ha hb z z z z z z z z, (vl10 n a b 0 0 0 0 0 0 0 0).trans (by rw [two_sh]; simp only [Int.zero_mul, Int.zero_add, Int.add_zero])⟩
  | 1, _ => exact ⟨wd10 n z ha hb z z z z z z z, (vl10 n 0 a b 0 0 0 0 0 0 0).trans (by rw [two_sh]; simp only [Int.zero_mul, Int.zero_add, Int.add_zero])⟩
  | 2, _ => exact ⟨wd10 n z z ha hb z z z z z z, (vl10 n 0 0 a b 0 0 0 0 0 0).trans (by rw [two_sh]; simp only [Int.zero_mul, Int.zero_add, Int.add_zero])⟩
  | 3, _ => exact ⟨wd10 n z z z ha hb z z z z z, (vl10 n 0 0 0 a b 0 0 0 0 0).trans (by rw [two_sh]; simp only [Int.zero_mul, Int.zero_add, Int.add_zero])⟩
  | 4, _ => exact ⟨wd10 n z z z z ha hb z z z z, (vl10 n 0 0 0 0 a b 0 0 0 0).trans (by rw [two_sh]; simp only [Int.zero_mul, Int.zero_add, Int.add_zero])⟩
  | 5, _ => exact ⟨wd10 n z z z z z ha hb z z z, (vl10 n 0 0 0 0 0 a b 0 0 0).trans (by rw [two_sh]; simp only [Int.zero_mul, Int.zero_add, Int.add_zero])⟩
  | 6, _ => exact ⟨wd10 n z z z z z z ha hb z z, (vl10 n 0 0 0 0 0 0 a b 0 0).trans (by rw [two_sh]; simp only [Int.zero_mul, Int.zero_add, Int.add_zero])⟩
  | 7, _ => exact ⟨wd10 n z z z z z z z ha hb z, (vl10 n 0 0 0 0 0 0 0 a b 0).trans (by rw [two_sh]; simp only [Int.zero_mul, Int.zero_add, Int.add_zero])⟩
  | 8, _ => exact ⟨wd10 n z z z z z z z z ha hb, (vl10 n 0 0 0 0 0 0 0 0 a b).trans (by rw [two_sh]; simp only [Int.zero_mul, Int.zero_add, Int.add_zero])⟩
theorem set_one (n : Bool) (a : Int) (ha : w64 a) (i : Nat) (hi : i < 9) :
    wd (n, List.set [(0:Int), 0, 0, 0, 0, 0, 0, 0, 0, 0] i a, ()) ∧ vl (n, List.set [(0:Int), 0, 0, 0, 0, 0, 0, 0, 0, 0] i a, ()) = a * 2 ^ (64 * i) := by
  have := set_two n a 0 ha w64_0 i hi
  have e : (List.set [(0:Int), 0, 0, 0, 0, 0, 0, 0, 0, 0] i a).set (i + 1) 0 = List.set [(0:Int), 0, 0, 0, 0, 0, 0, 0, 0, 0] i a := by
    match i, hi with
    | 0, _ => rfl
    | 1, _ => rfl
    | 2, _ => rfl
    | 3, _ => rfl
    | 4, _ => rfl
    | 5, _ => rfl
    | 6, _ => rfl
    | 7, _ => rfl
    | 8, _ => rfl
  rw [e] at this
  exact ⟨this.1, by rw [this.2]; simp⟩
theorem spread_eq (n : Bool) {e N : Int} (he : -298 ≤ e ∧ e ≤ 260) (hN : w64 N) : ∃ L, F_annealref1_spread n e N = some (n, L, ()) ∧ wd (n, L, ()) ∧ vl (n, L, ()) = N * 2 ^ (e + 298).toNat := by
  have c64 : (2 : Int) ^ 64 = 18446744073709551616 := rfl
  unfold F_annealref1_spread
  dsimp only
  rw [wi64 (n := e + 298) (by omega), tdiv_nn (by omega), tmod_nn (by omega)]
  generalize ht : e + 298 = t at *
  obtain ⟨i, hi⟩ : ∃ i : Nat, t / 64 = i := ⟨(t / 64).toNat, by omega⟩
  obtain ⟨s, hs⟩ : ∃ s : Nat, t % 64 = s := ⟨(t % 64).toNat, by omega⟩
  rw [hi, hs, wi64 (n := (i : Int)) (by omega), wi64 (n := (i : Int) + 1) (by omega), wi64 (n := 64 - (s : Int)) (by omega)]
  have e1 : ((1:Nat) + ((Int.toNat (i : Int)) * (1:Nat))) - 1 = i := by omega
  have e2 : ((1:Nat) + ((Int.toNat ((i : Int) + 1)) * (1:Nat))) - 1 = i + 1 := by omega
  have m1 : min (Int.toNat (s : Int)) 64 = s := by omega
  have m2 : min (Int.toNat (64 - (s : Int))) 64 = 64 - s := by omega
  have hT : t.toNat = s + 64 * i := by omega
  have ps := p2_pos s
  have a1 : w64 (IntKind.u64.wrap (N * 2 ^ s)) := by rw [wu64_eq]; exact ⟨by omega, by omega⟩
  have a2 : w64 (N / 2 ^ (64 - s)) := ⟨Int.ediv_nonneg hN.1 (by have := p2_pos (64 - s); omega), by
    have := Int.ediv_le_self (b := 2 ^ (64 - s)) hN.1; have := hN.2; omega⟩
  have s2 := set_two n (IntKind.u64.wrap (N * 2 ^ s)) (N / 2 ^ (64 - s)) a1 a2 i (by omega)
  have s1 := set_one n (IntKind.u64.wrap (N * 2 ^ s)) a1 i (by omega)
  have l1 : (List.set [(0:Int), 0, 0, 0, 0, 0, 0, 0, 0, 0] i (IntKind.u64.wrap (N * 2 ^ s))).length = 10 := s1.1.1
  have l2 : ((List.set [(0:Int), 0, 0, 0, 0, 0, 0, 0, 0, 0] i (IntKind.u64.wrap (N * 2 ^ s))).set (i + 1) (N / 2 ^ (64 - s))).length = 10 := s2.1.1
  simp only [e1, e2, m1, m2, len10 l1, len10 l2, l1, l2, bif_dec]
  rw [if_pos (by omega), if_pos (by omega), if_pos (by omega)]
  by_cases h0 : (s : Int) > 0
  · rw [if_pos h0, if_pos (by omega), if_pos (by omega), if_pos (by omega), if_pos (by omega), if_pos (by decide)]
    refine ⟨_, rfl, s2.1, ?_⟩
    rw [s2.2, hT, p2_add, ← Int.mul_assoc]
    congr 1
    rw [wu64_eq, c64]
    have d := Int.emod_add_mul_ediv (N * 2 ^ s) 18446744073709551616
    have q : N * 2 ^ s / 18446744073709551616 = N / 2 ^ (64 - s) := by
      rw [← c64, mul_p2_div' _ _ _ (by omega)]
    rw [q] at d; omega
  · rw [if_neg h0, if_pos (by decide)]
    refine ⟨_, rfl, s1.1, ?_⟩
    have : s = 0 := by omega
    subst this
    rw [s1.2, hT, p2_add, ← Int.mul_assoc]
    congr 1
    rw [wu64_eq]; have := hN.1; have := hN.2; simp; omega
def totS (f mode T : Int) : Int × ExcT × Unit := if T = 0 then (sgn f (decide (mode = 3)), EXC0, ()) else pk f mode (decide (T < 0)) (-298) (if T < 0 then -T else T) false
theorem total_eq (f mode : Int) {x y : WdT} (hx : wd x) (hy : wd y) (hov : vl x + vl y < 2 ^ 640) : F_annealref1_total f mode x y = some (totS f mode (sv x.1 (vl x) + sv y.1 (vl y))) := by
  obtain ⟨r, hr, wr, hv⟩ := plus_eq hx hy hov
  unfold F_annealref1_total
  simp only [len10 hx.1, len10 hy.1]
  rw [show (x.1, x.2.1, ()) = x from rfl, show (y.1, y.2.1, ()) = y from rfl, hr]
  simp only [Option.bind_some, len10 wr.1]
  have bd := vl_bd wr
  have hz := vf_zero (n := 10) wr.2
  have hn : ((r.2.1.getD 0 0 == 0) && ((r.2.1.getD 1 0 == 0) && ((r.2.1.getD 2 0 == 0) && ((r.2.1.getD 3 0 == 0) && ((r.2.1.getD 4 0 == 0) && ((r.2.1.getD 5 0 == 0) && ((r.2.1.getD 6 0 == 0) && ((r.2.1.getD 7 0 == 0) && ((r.2.1.getD 8 0 == 0) && ((r.2.1.getD 9 0 == 0) && true)))))))))) = decide (vl r = 0) := by
    rw [Bool.eq_iff_iff, decide_eq_true_eq]
    unfold vl
    rw [hz]
    simp only [Bool.and_eq_true, beq_iff_eq, and_true]
    constructor
    · rintro ⟨h0, h1, h2, h3, h4, h5, h6, h7, h8, h9⟩ k hk
      match k, hk with
      | 0, _ => exact h0
      | 1, _ => exact h1
      | 2, _ => exact h2
      | 3, _ => exact h3
      | 4, _ => exact h4
      | 5, _ => exact h5
      | 6, _ => exact h6
      | 7, _ => exact h7
      | 8, _ => exact h8
      | 9, _ => exact h9
    · intro h
      exact ⟨h 0 (by omega), h 1 (by omega), h 2 (by omega), h 3 (by omega), h 4 (by omega), h 5 (by omega), h 6 (by omega), h 7 (by omega), h 8 (by omega), h 9 (by omega)⟩
  rw [hn, ← hv]
  unfold totS
  by_cases h0 : vl r = 0
  · rw [decide_eq_true h0]
    have : sv r.1 (vl r) = 0 := by rw [h0]; unfold sv; simp
    rw [this, if_pos rfl, zeror_w]; rfl
  · rw [decide_eq_false h0]
    simp only [cond_false]
    rw [show (r.1, r.2.1, ()) = r from rfl, rounded_eq f mode wr h0]
    simp only [Option.bind_some]
    have hne : sv r.1 (vl r) ≠ 0 := by unfold sv; split <;> omega
    rw [if_neg hne]
    have hs : r.1 = decide (sv r.1 (vl r) < 0) := by
      unfold sv; cases r.1 <;> simp <;> omega
    have ha : (if sv r.1 (vl r) < 0 then -sv r.1 (vl r) else sv r.1 (vl r)) = vl r := by
      unfold sv; cases r.1 <;> simp <;> omega
    rw [ha, ← hs]
end Go.Proofs.Ytkknnloamidaiaa.VI

namespace Go.Proofs.Ytkknnloamidaiaa.VI
set_option linter.unusedVariables false
set_option linter.unusedSimpArgs false
set_option linter.unusedSimpArgs false
set_option linter.unusedVariables false
set_option maxRecDepth 100000
set_option maxHeartbeats 4000000
def inff (f a : Int) : Bool := decide (a % TT f = IN f)
def loud (f a : Int) : Bool := decide (kl f a = 5)
def NN (f : Int) : Int := IN f + BB f / 2
theorem isinf_eq (f : Int) {a : Int} (h : w32 a) : F_format_IsInf f a = some (inff f a) := by
  unfold F_format_IsInf inff; rw [class_eq f h.1 h.2]
  show some (decide (kl f a = 3)) = _
  exact some_dn (kl_inf f a)
theorem infr_c (f : Int) {a : Int} (h : w32 a) : F_annealref1_inf f a = some (inff f a) := by
  unfold F_annealref1_inf inff; rw [classr_eq f h.1 h.2]
  show some (decide (kl f a = 3)) = _
  exact some_dn (kl_inf f a)
theorem cls (f a : Int) : (nan f a = true ∧ zr f a = false ∧ inff f a = false) ∨ (nan f a = false ∧ loud f a = false ∧ zr f a = true ∧ inff f a = false) ∨ (nan f a = false ∧ loud f a = false ∧ zr f a = false ∧ inff f a = true) ∨ (nan f a = false ∧ loud f a = false ∧ zr f a = false ∧ inff f a = false) := by
  have k1 := kl_nan f a
  have k2 := kl_zero f a
  have k3 := kl_inf f a
  have hb := kl_le f a
  unfold nan zr inff loud
  generalize kl f a = k at *
  simp only [decide_eq_true_eq, decide_eq_false_iff_not, ← k1, ← k2, ← k3]
  omega
theorem snans_st (f : Int) (l : List Int) (z : (Bool × Bool × Bool × Bool × Bool × Unit)) (i : Nat) (s q : Bool) (hi : i < l.length) (hl : l.length < 4611686018427387904) (h : w32 (l.getD i 0)) (R kn ko) :
    st_sum_Nans_0 R ((f, (s, (l, ((l.length : Int), ((i : Int), ()))))), (z, ((q, false, false, false, false, ()), ()))) kn ko = kn ((f, (s || nan f (l.getD i 0), (l, ((l.length : Int), (((i + 1 : Nat) : Int), ()))))), (z, ((q || loud f (l.getD i 0), false, false, false, false, ()), ()))) := by
  unfold st_sum_Nans_0
  dsimp only
  simp only [List.take_length, bif_dec]
  rw [if_pos (by omega), if_pos (by omega), Int.toNat_natCast, class_eq f h.1 h.2]
  have e1 := kl_nan f (l.getD i 0)
  have e2 : decide (kl f (l.getD i 0) ≥ 4) = nan f (l.getD i 0) := decide_eq_decide.2 e1
  have e3 : (kl f (l.getD i 0) == 5) = loud f (l.getD i 0) := rfl
  rw [wi64 (by omega)]
  simp only [Option.bind_some, e2, e3]
  rw [show ((i + 1 : Nat) : Int) = (i : Int) + 1 by omega]
  cases s <;> cases q <;> rfl
theorem snans_eq (f : Int) (l : List Int) (hl : l.length < 4611686018427387904) (h : ∀ a ∈ l, w32 a) :
    F_sum_Nans f l = some (NN f, (l.any (loud f), false, false, false, false, ()), l.any (nan f), ()) := by
  unfold F_sum_Nans
  rw [List.take_length]
  have := lim_seq (st := st_sum_Nans_0) (fun i => ((f, ((l.take i).any (nan f), (l, ((l.length : Int), ((i : Int), ()))))), (EXC0, (((l.take i).any (loud f), false, false, false, false, ()), ()))))
    (b := ((f, (l.any (nan f), ())), (EXC0, ((l.any (loud f), false, false, false, false, ()), ())))) l.length
    (fun i hi R kn ko => by
      have hm : l.getD i 0 ∈ l := by rw [gtd hi]; exact List.getElem_mem hi
      rw [snans_st f l _ i _ _ hi hl (h _ hm)]
      rw [List.take_add_one, List.getElem?_eq_getElem hi, gtd hi]
      simp only [List.any_append, Option.toList_some, List.any_cons, List.any_nil, Bool.or_false])
    (fun R kn ko => by
      unfold st_sum_Nans_0
      dsimp only
      rw [bif_dec, if_neg (by omega), List.take_length])
  have e : lim st_sum_Nans_0 ((f, (false, (l, ((((List.length l) : Nat) : Int), ((0:Int), ()))))), ((false, (false, (false, (false, (false, ()))))), ((false, (false, (false, (false, (false, ()))))), ()))) = _ := this
  rw [e]
  simp only [Option.bind_some, nan_w]
  rfl
theorem torn_eq (f : Int) {a b : Int} (ha : w32 a) (hb : w32 b) : F_prod_torn f a b = some ((zr f a && inff f b) || (inff f a && zr f b)) := by
  unfold F_prod_torn
  rw [iszero_eq f ha, isinf_eq f ha, iszero_eq f hb, isinf_eq f hb]
  cases zr f a <;> cases inff f b <;> cases inff f a <;> cases zr f b <;> rfl
theorem sig_bd (f a : Int) : 0 ≤ sig f a ∧ sig f a < 2 * BB f := by
  have b2 := ff_bd f a
  have fb := fmt_bd f
  unfold sig; split
  · omega
  · split <;> omega
theorem xp_bd (f a : Int) : -149 ≤ xp f a ∧ xp f a ≤ 127 := by
  have b1 := ex_bd f a
  unfold xp le
  rcases tri f with rfl | rfl | ⟨h, h'⟩ <;> simp [RR, MM, *] at b1 ⊢ <;> (repeat' split) <;> omega
theorem or_BB (f : Int) {x : Int} (hx : 0 ≤ x ∧ x < BB f) : bits .or .u64 x (BB f) = x + BB f := by
  have fb := fmt_bd f
  obtain ⟨k, hk, hb, hk3⟩ := MM_pow f
  rw [or_comm64]
  rw [or_join64 (BB f) x k (by omega) (by omega) hx.1 (by omega) (by omega) (by rw [hb]; exact Int.emod_self)]
  omega
theorem unpack_eq (f : Int) {a : Int} (h : w32 a) : F_format_Unpack f a = some (sg f a, xp f a, sig f a, ()) := by
  have b1 := ex_bd f a
  have b2 := ff_bd f a
  have fb := fmt_bd f
  have lb := le_bd f
  unfold F_format_Unpack xp sig
  rw [parts_eq f h.1 h.2, wid_eq, least_eq, top_eq]
  have e1 : IntKind.wrap .u64 (1 * (2:Int) ^ (Min.min (Int.toNat (IntKind.wrap .u64 (MM f))) 64)) = BB f := by
    rw [← nf_MM, ← nf_BB]; rcases nf_cases f with h | h | h <;> rw [h] <;> rfl
  simp only [Option.bind_some, e1, wu64_nn, decide_true, cond_true, bif_eq]
  rw [wu64 (n := ff f a) (by omega), or_BB f b2, wi64 (n := le f - MM f) (by omega), wi64 (n := le f - MM f + ex f a) (by omega), wi64 (n := le f - MM f + ex f a - 1) (by omega)]
  split
  · rfl
  · split <;> rfl
theorem unpackr_eq (f : Int) {a : Int} (h : w32 a) : F_annealref1_Unpack f a = some (sg f a, xp f a, sig f a, ()) := by
  have b1 := ex_bd f a
  have b2 := ff_bd f a
  have fb := fmt_bd f
  have lb := le_bd f
  have hkl : kl f a = if ex f a = 0 then (if ff f a = 0 then 0 else 1) else if ex f a < RR f - 1 then 2 else if ff f a = 0 then 3 else if ff f a / (BB f / 2) = 1 then 4 else 5 := rfl
  unfold F_annealref1_Unpack xp sig
  rw [partsr_eq f h.1 h.2, widr_eq, bias_eq, classr_eq f h.1 h.2]
  have e1 : IntKind.wrap .u64 (1 * (2:Int) ^ (Min.min (Int.toNat (MM f)) 64)) = BB f := by
    rw [← nf_MM, ← nf_BB]; rcases nf_cases f with h | h | h <;> rw [h] <;> rfl
  simp only [Option.bind_some, e1, bif_dec]
  rw [if_pos (by omega), or_BB f b2, wi64 (n := ex f a - (1 - le f)) (by omega), wi64 (n := ex f a - (1 - le f) - MM f) (by omega), wi64 (n := 1 - (1 - le f)) (by omega), wi64 (n := 1 - (1 - le f) - MM f) (by omega), hkl]
  by_cases h0 : ex f a = 0
  · simp only [if_pos h0]
    rw [show 1 - (1 - le f) - MM f = le f - MM f by omega]
    by_cases hf : ff f a = 0
    · rw [if_pos hf]; rfl
    · rw [if_neg hf]; rfl
  · simp only [if_neg h0]
    by_cases h1 : ex f a < RR f - 1
    · rw [if_pos h1, if_neg (by omega), if_neg (by omega)]
      rw [show ex f a - (1 - le f) - MM f = le f - MM f + ex f a - 1 by omega]
      rfl
    · have h2 : ex f a = RR f - 1 := by omega
      rw [if_neg h1]
      simp only [if_pos h2]
      by_cases hf : ff f a = 0
      · rw [if_pos hf]; rfl
      · rw [if_neg hf]
        by_cases hq : ff f a / (BB f / 2) = 1
        · rw [if_pos hq]; rfl
        · rw [if_neg hq]; rfl
theorem of_eq (f : Int) {a : Int} (h : w32 a) : F_sum_Of f a = some (sg f a, xp f a, sig f a, false, ()) := by
  unfold F_sum_Of; rw [unpack_eq f h]; rfl
theorem sig_zero (f a : Int) (hn : nan f a = false) (hi : inff f a = false) : sig f a = 0 ↔ zr f a = true := by
  have e := ex_fr f a
  have b1 := ex_bd f a
  have b2 := ff_bd f a
  unfold nan at hn; unfold inff at hi; unfold zr sig
  simp only [decide_eq_false_iff_not] at hn hi
  simp only [decide_eq_true_eq]
  rw [← e] at hn hi ⊢
  unfold IN at hn hi
  generalize ex f a = x at *
  generalize ff f a = m at *
  rcases tri f with rfl | rfl | ⟨h, h'⟩ <;> simp [BB, RR, *] at b1 b2 hn hi ⊢ <;> (repeat' split) <;> omega
def mulS (f mode a b : Int) : Int × ExcT × Unit :=
  if nan f a || nan f b then (NN f, (loud f a || loud f b, false, false, false, false, ()), ())
  else if (zr f a && inff f b) || (inff f a && zr f b) then (NN f, (true, false, false, false, false, ()), ())
  else if inff f a || inff f b then (sgn f (!(sg f a == sg f b)) + IN f, EXC0, ())
  else pk f mode (!(sg f a == sg f b)) (xp f a + xp f b) (sig f a * sig f b) false
theorem sig_mul (f a b : Int) : w64 (sig f a * sig f b) ∧ sig f a * sig f b < 2 ^ 48 := by
  have A := sig_bd f a
  have B := sig_bd f b
  have fb := fmt_bd f
  have h : sig f a * sig f b ≤ 16777215 * 16777215 := Int.mul_le_mul (by omega) (by omega) B.1 (by omega)
  have : (2 : Int) ^ 48 = 281474976710656 := rfl
  exact ⟨⟨Int.mul_nonneg A.1 B.1, by omega⟩, by omega⟩
theorem mul_eq (f mode : Int) {a b : Int} (ha : w32 a) (hb : w32 b) : F_prod_Mul f mode a b = some (mulS f mode a b) := by
  have sm := sig_mul f a b
  have xa := xp_bd f a
  have xb := xp_bd f b
  unfold F_prod_Mul F_prod_product F_sum_Bad mulS
  rw [snans_eq f [a, b] (by simp) (by simpa using ⟨ha, hb⟩), torn_eq f ha hb, neg_eq f ha, neg_eq f hb, isinf_eq f ha, isinf_eq f hb, of_eq f ha, of_eq f hb, nan_w]
  simp only [Option.bind_some, List.any_cons, List.any_nil, Bool.or_false, inf_eq]
  rw [wu64 (n := sig f a * sig f b) (by have := sm.1; omega), wi64 (n := xp f a + xp f b) (by omega), pack_eq f mode _ _ sm.1, show min (max (xp f a + xp f b) (-10000)) 10000 = xp f a + xp f b by omega]
  rcases cls f a with ⟨a1, a3, a4⟩ | ⟨a1, a2, a3, a4⟩ | ⟨a1, a2, a3, a4⟩ | ⟨a1, a2, a3, a4⟩ <;> rcases cls f b with ⟨b1, b3, b4⟩ | ⟨b1, b2, b3, b4⟩ | ⟨b1, b2, b3, b4⟩ | ⟨b1, b2, b3, b4⟩ <;> simp only [a1, a3, a4, b1, b3, b4] <;> rfl
def sumS (f mode : Int) (n : Bool) (e N : Int) (m : Bool) (d M : Int) : Int × ExcT × Unit :=
  if sv n (N * 2 ^ (e + 298).toNat) + sv m (M * 2 ^ (d + 298).toNat) = 0 ∧ n = m then (sgn f n, EXC0, ())
  else totS f mode (sv n (N * 2 ^ (e + 298).toNat) + sv m (M * 2 ^ (d + 298).toNat))
theorem sv_mul (n : Bool) (A P : Int) : sv n (A * P) = sv n A * P := by unfold sv; cases n <;> simp [Int.neg_mul]
theorem psum_eq (f mode : Int) (n m : Bool) {e N d M : Int} (hN : 0 ≤ N ∧ N < 2 ^ 48) (hM : 0 ≤ M ∧ M < 2 ^ 48) (he : -298 ≤ e ∧ e ≤ 300) (hd : -298 ≤ d ∧ d ≤ 300) :
    ((F_sum_Exact (n, e, N, false, ()) (m, d, M, false, ())).bind fun r =>
      bif (r.2.2.1 == (0:Int)) then
        bif (!r.2.2.2.1) then
          ((F_sum_Nought f mode n m)).bind fun r15 =>
          (some (r15, ((false, (false, (false, (false, (false, ()))))), ())))
        else
          ((F_round_Pack f mode r.1 r.2.1 r.2.2.1 r.2.2.2.1)).bind fun r16 => (some r16)
      else
        ((F_round_Pack f mode r.1 r.2.1 r.2.2.1 r.2.2.2.1)).bind fun r17 => (some r17)) = some (sumS f mode n e N m d M) := by
  obtain ⟨r, hr, hw, hex, hz, hnz⟩ := exact_eq n m e N d M 400 hN hM (by omega) (by omega) (by omega) (by omega)
  rw [hr]
  simp only [Option.bind_some]
  have p102 := p2_pos 102
  have hT : sv n (N * 2 ^ (e + 400).toNat) + sv m (M * 2 ^ (d + 400).toNat) = (sv n (N * 2 ^ (e + 298).toNat) + sv m (M * 2 ^ (d + 298).toNat)) * 2 ^ 102 := by
    rw [show (e + 400).toNat = (e + 298).toNat + 102 by omega, show (d + 400).toNat = (d + 298).toNat + 102 by omega, p2_add, p2_add, ← Int.mul_assoc, ← Int.mul_assoc, sv_mul n _ (2 ^ 102), sv_mul m _ (2 ^ 102), Int.add_mul]
  unfold sumS
  rw [hT] at hz hnz
  generalize sv n (N * 2 ^ (e + 298).toNat) + sv m (M * 2 ^ (d + 298).toNat) = T at *
  by_cases h0 : T = 0
  · have := hz (by rw [h0]; simp)
    rw [this.1, this.2]
    simp only [BEq.rfl, Bool.not_false, cond_true]
    unfold F_sum_Nought
    rw [zero_eq, zero_eq]
    by_cases hnm : n = m
    · rw [if_pos ⟨h0, hnm⟩]; subst hnm; simp
    · rw [if_neg (fun h => hnm h.2)]
      have : (n == m) = false := by simpa using hnm
      rw [this]
      unfold totS
      rw [if_pos h0]
      rfl
  · rw [if_neg (fun h => h0 h.1)]
    have hne : T * 2 ^ 102 ≠ 0 := by
      intro k; rcases Int.mul_eq_zero.1 k with q | q
      · exact h0 q
      · omega
    obtain ⟨h1, h2, h3⟩ := hnz hne
    have hlt : (T * 2 ^ 102 < 0) ↔ T < 0 := by
      constructor
      · intro k; apply Int.not_le.1; intro hle
        have := Int.mul_nonneg hle (show (0 : Int) ≤ 2 ^ 102 by omega); omega
      · intro k
        have := Int.mul_lt_mul_of_pos_right k p102
        rw [Int.zero_mul] at this; exact this
    have hab : (if T * 2 ^ 102 < 0 then -(T * 2 ^ 102) else T * 2 ^ 102) = (if T < 0 then -T else T) * 2 ^ 102 := by
      by_cases k : T < 0
      · rw [if_pos (hlt.2 k), if_pos k, Int.neg_mul]
      · rw [if_neg (fun q => k (hlt.1 q)), if_neg k]
    have hpk : F_round_Pack f mode r.1 r.2.1 r.2.2.1 r.2.2.2.1 = some (totS f mode T) := by
      rw [pack_eq f mode _ _ hw, show min (max r.2.1 (-10000)) 10000 = r.2.1 by omega, h3 f mode, hab, decide_eq_decide.2 hlt, pk_shift _ _ _ _ _ _ (by split <;> omega)]
      unfold totS
      rw [if_neg h0]
      rfl
    rw [hpk]
    simp only [Option.bind_some]
    cases hq : r.2.2.1 == 0
    · rfl
    · cases hq2 : r.2.2.2.1
      · exact absurd ⟨by simpa using hq, hq2⟩ h1
      · rfl
end Go.Proofs.Ytkknnloamidaiaa.VI

namespace Go.Proofs.Ytkknnloamidaiaa.VI
set_option linter.unusedVariables false
set_option linter.unusedSimpArgs false
set_option linter.unusedSimpArgs false
set_option linter.unusedVariables false
set_option maxRecDepth 100000
set_option maxHeartbeats 8000000
def fmaS (f mode a b c : Int) : Int × ExcT × Unit :=
  if (nan f a || (nan f b || nan f c)) || ((zr f a && inff f b) || (inff f a && zr f b)) then (NN f, ((loud f a || (loud f b || loud f c)) || ((zr f a && inff f b) || (inff f a && zr f b)), false, false, false, false, ()), ())
  else if inff f a || inff f b then
    (if inff f c && !(sg f c == !(sg f a == sg f b)) then (NN f, (true, false, false, false, false, ()), ()) else (sgn f (!(sg f a == sg f b)) + IN f, EXC0, ()))
  else if inff f c then (sgn f (sg f c) + IN f, EXC0, ())
  else sumS f mode (!(sg f a == sg f b)) (xp f a + xp f b) (sig f a * sig f b) (sg f c) (xp f c) (sig f c)
theorem sig_48 (f a : Int) : 0 ≤ sig f a ∧ sig f a < 2 ^ 48 := by
  have A := sig_bd f a
  have fb := fmt_bd f
  have : (2 : Int) ^ 48 = 281474976710656 := rfl
  omega
theorem fma_eq (f mode : Int) {a b c : Int} (ha : w32 a) (hb : w32 b) (hc : w32 c) : F_prod_Fma f mode a b c = some (fmaS f mode a b c) := by
  have sm := sig_mul f a b
  have xa := xp_bd f a
  have xb := xp_bd f b
  have xc := xp_bd f c
  have hs := psum_eq f mode (!(sg f a == sg f b)) (sg f c) (N := sig f a * sig f b) (M := sig f c) ⟨sm.1.1, sm.2⟩ (sig_48 f c) (show -298 ≤ xp f a + xp f b ∧ xp f a + xp f b ≤ 300 by omega) (show -298 ≤ xp f c ∧ xp f c ≤ 300 by omega)
  unfold F_prod_Fma F_prod_product F_sum_Bad F_sum_Infinite F_sum_Bad fmaS
  rw [snans_eq f [a, b, c] (by simp) (by simpa using ⟨ha, hb, hc⟩), torn_eq f ha hb, neg_eq f ha, neg_eq f hb, neg_eq f hc, isinf_eq f ha, isinf_eq f hb, isinf_eq f hc, of_eq f ha, of_eq f hb, of_eq f hc, nan_w]
  simp only [Option.bind_some, List.any_cons, List.any_nil, Bool.or_false, inf_eq]
  rw [wu64 (n := sig f a * sig f b) (by have := sm.1; omega), wi64 (n := xp f a + xp f b) (by omega), hs]
  generalize sumS f mode (!(sg f a == sg f b)) (xp f a + xp f b) (sig f a * sig f b) (sg f c) (xp f c) (sig f c) = W
  have hx : ∀ p q : Bool, (!(p == q)) = (!(q == p)) := by decide
  rcases cls f a with ⟨a1, a3, a4⟩ | ⟨a1, a2, a3, a4⟩ | ⟨a1, a2, a3, a4⟩ | ⟨a1, a2, a3, a4⟩ <;> rcases cls f b with ⟨b1, b3, b4⟩ | ⟨b1, b2, b3, b4⟩ | ⟨b1, b2, b3, b4⟩ | ⟨b1, b2, b3, b4⟩ <;> rcases cls f c with ⟨c1, c3, c4⟩ | ⟨c1, c2, c3, c4⟩ | ⟨c1, c2, c3, c4⟩ | ⟨c1, c2, c3, c4⟩ <;> simp only [a1, a3, a4, b1, b3, b4, c1, c4] <;> first | rfl | (cases loud f a <;> cases loud f b <;> cases loud f c <;> rfl) | (cases sg f a <;> cases sg f b <;> cases sg f c <;> rfl)
end Go.Proofs.Ytkknnloamidaiaa.VI

namespace Go.Proofs.Ytkknnloamidaiaa.VI
set_option linter.unusedVariables false
set_option linter.unusedSimpArgs false
set_option linter.unusedSimpArgs false
set_option linter.unusedVariables false
set_option maxRecDepth 100000
set_option maxHeartbeats 8000000
theorem inf_bits (f : Int) {a : Int} (ha : w32 a) (h : inff f a = true) : a % (2 * TT f) = sgn f (sg f a) + IN f := by
  have e : a % TT f = IN f := by unfold inff at h; simpa using h
  have s := sg_iff f a ha.1
  have b := mod_bd f a
  have ib := IN_bd f
  unfold sgn
  cases hs : sg f a
  · rw [hs] at s; simp at s ⊢; omega
  · have := s.1 hs; simp; omega
theorem sum_w {N M : Int} {e d : Int} (hN : 0 ≤ N ∧ N < 2 ^ 48) (hM : 0 ≤ M ∧ M < 2 ^ 48) (he : -298 ≤ e ∧ e ≤ 260) (hd : -298 ≤ d ∧ d ≤ 260) : N * 2 ^ (e + 298).toNat + M * 2 ^ (d + 298).toNat < 2 ^ 640 := by
  have h1 : N * 2 ^ (e + 298).toNat < 2 ^ 48 * 2 ^ (e + 298).toNat := Int.mul_lt_mul_of_pos_right hN.2 (p2_pos _)
  have h2 : M * 2 ^ (d + 298).toNat < 2 ^ 48 * 2 ^ (d + 298).toNat := Int.mul_lt_mul_of_pos_right hM.2 (p2_pos _)
  rw [← p2_add] at h1 h2
  have a1 := p2_le (show 48 + (e + 298).toNat ≤ 639 by omega)
  have a2 := p2_le (show 48 + (d + 298).toNat ≤ 639 by omega)
  have a3 := p2_succ 639
  rw [show 639 + 1 = 640 from rfl] at a3
  omega
theorem rsum_eq (f mode : Int) (n m : Bool) {e N d M : Int} (hN : 0 ≤ N ∧ N < 2 ^ 48) (hM : 0 ≤ M ∧ M < 2 ^ 48) (he : -298 ≤ e ∧ e ≤ 260) (hd : -298 ≤ d ∧ d ≤ 260) :
    ∃ L K, F_annealref1_spread n e N = some (n, L, ()) ∧ F_annealref1_spread m d M = some (m, K, ()) ∧ L.length = 10 ∧ K.length = 10 ∧
      F_annealref1_total f mode (n, L, ()) (m, K, ()) = some (totS f mode (sv n (N * 2 ^ (e + 298).toNat) + sv m (M * 2 ^ (d + 298).toNat))) := by
  have c48 : (2 : Int) ^ 48 = 281474976710656 := rfl
  obtain ⟨L, h1, h2, h3⟩ := spread_eq n he (N := N) ⟨hN.1, by omega⟩
  obtain ⟨K, k1, k2, k3⟩ := spread_eq m hd (N := M) ⟨hM.1, by omega⟩
  refine ⟨L, K, h1, k1, h2.1, k2.1, ?_⟩
  have := total_eq f mode h2 k2 (by rw [h3, k3]; exact sum_w hN hM he hd)
  rw [this, h3, k3]
theorem sum_tot (f mode : Int) (n m : Bool) {e N d M : Int} (hN : 0 ≤ N) (hM : 0 ≤ M) : sumS f mode n e N m d M = if N = 0 ∧ M = 0 ∧ n = m then (sgn f n, EXC0, ()) else totS f mode (sv n (N * 2 ^ (e + 298).toNat) + sv m (M * 2 ^ (d + 298).toNat)) := by
  unfold sumS
  have pe := p2_pos (e + 298).toNat
  have pd := p2_pos (d + 298).toNat
  have a := Int.mul_nonneg hN (show (0 : Int) ≤ 2 ^ (e + 298).toNat by omega)
  have b := Int.mul_nonneg hM (show (0 : Int) ≤ 2 ^ (d + 298).toNat by omega)
  by_cases hnm : n = m
  · have : sv n (N * 2 ^ (e + 298).toNat) + sv m (M * 2 ^ (d + 298).toNat) = 0 ↔ (N = 0 ∧ M = 0) := by
      rw [hnm]
      constructor
      · intro h
        have h1 : N * 2 ^ (e + 298).toNat = 0 := by unfold sv at h; split at h <;> omega
        have h2 : M * 2 ^ (d + 298).toNat = 0 := by unfold sv at h; split at h <;> omega
        refine ⟨?_, ?_⟩
        · rcases Int.mul_eq_zero.1 h1 with q | q <;> omega
        · rcases Int.mul_eq_zero.1 h2 with q | q <;> omega
      · rintro ⟨h1, h2⟩; rw [h1, h2]; unfold sv; simp
    by_cases hz : N = 0 ∧ M = 0
    · rw [if_pos ⟨this.2 hz, hnm⟩, if_pos ⟨hz.1, hz.2, hnm⟩]
    · rw [if_neg (fun h => hz (this.1 h.1)), if_neg (fun h => hz ⟨h.1, h.2.1⟩)]
  · rw [if_neg (fun h => hnm h.2), if_neg (fun h => hnm h.2.2)]
theorem fmar_eq (f mode : Int) {a b c : Int} (ha : w32 a) (hb : w32 b) (hc : w32 c) : F_annealref1_Fma f mode a b c = some (fmaS f mode a b c) := by
  have sm := sig_mul f a b
  have xa := xp_bd f a
  have xb := xp_bd f b
  have xc := xp_bd f c
  obtain ⟨L, K, hL, hK, lL, lK, ht⟩ := rsum_eq f mode (!(sg f a == sg f b)) (sg f c) (N := sig f a * sig f b) (M := sig f c) ⟨sm.1.1, sm.2⟩ (sig_48 f c) (show -298 ≤ xp f a + xp f b ∧ xp f a + xp f b ≤ 260 by omega) (show -298 ≤ xp f c ∧ xp f c ≤ 260 by omega)
  unfold F_annealref1_Fma fmaS
  have w1 : IntKind.i64.wrap (xp f a + xp f b) = xp f a + xp f b := wi64 (by omega)
  have w2 : IntKind.u64.wrap (sig f a * sig f b) = sig f a * sig f b := wu64 (by have := sm.1; omega)
  have hst := sum_tot f mode (!(sg f a == sg f b)) (sg f c) (e := xp f a + xp f b) (d := xp f c) sm.1.1 (sig_48 f c).1
  have hfin : nan f a = false → inff f a = false → nan f b = false → inff f b = false → nan f c = false → inff f c = false →
      sumS f mode (!(sg f a == sg f b)) (xp f a + xp f b) (sig f a * sig f b) (sg f c) (xp f c) (sig f c) = bif (zr f a || zr f b) && (zr f c && ((!(sg f a == sg f b)) == sg f c)) then (sgn f (!(sg f a == sg f b)), EXC0, ()) else totS f mode (sv (!(sg f a == sg f b)) (sig f a * sig f b * 2 ^ (xp f a + xp f b + 298).toNat) + sv (sg f c) (sig f c * 2 ^ (xp f c + 298).toNat)) := by
    intro a1 a4 b1 b4 c1 c4
    rw [hst]
    have ea := sig_zero f a a1 a4
    have eb := sig_zero f b b1 b4
    have ec := sig_zero f c c1 c4
    have hz : sig f a * sig f b = 0 ↔ (zr f a || zr f b) = true := by
      rw [Int.mul_eq_zero, ea, eb, Bool.or_eq_true]
    by_cases h : sig f a * sig f b = 0 ∧ sig f c = 0 ∧ (!(sg f a == sg f b)) = sg f c
    · rw [if_pos h, hz.1 h.1, ec.1 h.2.1, h.2.2]; simp
    · rw [if_neg h]
      have : ((zr f a || zr f b) && (zr f c && ((!(sg f a == sg f b)) == sg f c))) = false := by
        apply Bool.eq_false_iff.2; intro k; apply h
        simp only [Bool.and_eq_true, beq_iff_eq] at k
        exact ⟨hz.2 k.1, ec.2 k.2.1, k.2.2⟩
      rw [this]; rfl
  have ib := inf_bits f hc
  simp only [nans_eq f [a, b, c] (by simp) (by simpa using ⟨ha, hb, hc⟩), zeror_eq f ha, zeror_eq f hb, zeror_eq f hc, infr_c f ha, infr_c f hb, infr_c f hc, negr_eq f ha, negr_eq f hb, negr_eq f hc, nanr_w, infr_eq, maskr_eq, zeror_w, unpackr_eq f ha, unpackr_eq f hb, unpackr_eq f hc, Option.bind_some, List.any_cons, List.any_nil, Bool.or_false, w1, w2, hL, hK, len10 lL, len10 lK, ht, and_TT f hc.1 hc.2]
  generalize totS f mode _ = W at *
  generalize sumS f mode _ _ _ _ _ _ = SW at *
  have hnnn : ∀ p q : Bool, (!(p == q)) = (!(q == p)) := by decide
  rcases cls f a with ⟨a1, a3, a4⟩ | ⟨a1, a2, a3, a4⟩ | ⟨a1, a2, a3, a4⟩ | ⟨a1, a2, a3, a4⟩ <;> rcases cls f b with ⟨b1, b3, b4⟩ | ⟨b1, b2, b3, b4⟩ | ⟨b1, b2, b3, b4⟩ | ⟨b1, b2, b3, b4⟩ <;> rcases cls f c with ⟨c1, c3, c4⟩ | ⟨c1, c2, c3, c4⟩ | ⟨c1, c2, c3, c4⟩ | ⟨c1, c2, c3, c4⟩ <;> simp only [a1, a3, a4, b1, b3, b4, c1, c3, c4, cond_true, cond_false, Bool.or_true, Bool.true_or, Bool.or_false, Bool.false_or, Bool.and_true, Bool.and_false, Bool.true_and, Bool.false_and, if_true, if_false, Bool.false_eq_true] at hfin ⊢
  all_goals first
    | rfl
    | (rw [ib c4])
    | (rw [hfin trivial trivial trivial trivial trivial trivial]; done)
    | (rw [hfin trivial trivial trivial trivial trivial trivial]; cases ((!(sg f a == sg f b)) == sg f c) <;> rfl)
    | (cases decide (kl f a = 5) <;> cases decide (kl f b = 5) <;> cases decide (kl f c = 5) <;> rfl)
    | (unfold loud; cases decide (kl f a = 5) <;> cases decide (kl f b = 5) <;> cases decide (kl f c = 5) <;> rfl)
    | (cases sg f a <;> cases sg f b <;> cases sg f c <;> rfl)
end Go.Proofs.Ytkknnloamidaiaa.VI
