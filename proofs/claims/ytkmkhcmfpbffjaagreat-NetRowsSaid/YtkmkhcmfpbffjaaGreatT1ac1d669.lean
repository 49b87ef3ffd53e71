import Derived.Test.YtkmkhcmfpbffjaaGreatT395d6f1b
namespace Go.Proofs.YtkmkhcmfpbffjaaGreat.VI
set_option linter.unusedVariables false
set_option linter.unusedSimpArgs false
set_option maxRecDepth 100000
set_option maxHeartbeats 4000000
abbrev NumT : Type := Bool × Int × Int × Bool × Unit
theorem full_eq (n : Bool) (e A : Int) (more : Bool) (he : -1000000 < e ∧ e < 1000000) (hA : 0 < A ∧ A < 2 ^ 62) :
    F_996 (n, e, A, more, ()) = some (n, e - (61 - lg A), A * 2 ^ (61 - lg A), more, ()) := by
  have hl := lg_bd (k := 62) hA.1 hA.2
  have h64 : w64 A := ⟨by omega, by have : (2 : Int) ^ 62 = 4611686018427387904 := rfl; omega⟩
  have hlt := lg_lt hA.1
  have hle := lg_le hA.1
  have hb : A * 2 ^ (61 - lg A) < 2 ^ 62 := by
    have := Int.mul_lt_mul_of_pos_right hlt (p2_pos (61 - lg A))
    rw [← p2_add, show lg A + 1 + (61 - lg A) = 62 by omega] at this
    exact this
  unfold F_996
  simp only [len_eq h64, Option.bind_some, ln_pos hA.1]
  rw [wi64 (n := 62 - ((lg A : Int) + 1)) (by omega), wi64 (n := 0 - (62 - ((lg A : Int) + 1))) (by omega), wi64 (by omega)]
  have hs : F_97a A (0 - (62 - ((lg A : Int) + 1))) = some (A * 2 ^ (61 - lg A), false, ()) := by
    by_cases h0 : lg A = 61
    · rw [h0]
      rw [show 0 - (62 - (((61 : Nat) : Int) + 1)) = 0 by omega, shr_eq h64 (by omega)]
      simp
    · have := shl_eq h64 (n := 61 - (lg A : Int)) (by omega) (by
        rw [show (61 - (lg A : Int)).toNat = 61 - lg A by omega]
        have : (2 : Int) ^ 62 = 4611686018427387904 := rfl; omega)
      rw [show 0 - (62 - ((lg A : Int) + 1)) = -(61 - (lg A : Int)) by omega, this]
      rw [show (61 - (lg A : Int)).toNat = 61 - lg A by omega]
  rw [hs]
  simp only [Option.bind_some]
  rw [show e - (62 - ((lg A : Int) + 1)) = e - (61 - lg A) by omega]
def sv (n : Bool) (A : Int) : Int := if n then -A else A
def tot (an : Bool) (ea A : Int) (bn : Bool) (eb B : Int) (z : Int) : Int := sv an (A * 2 ^ (ea + z).toNat) + sv bn (B * 2 ^ (eb + z).toNat)
def Std (r : NumT) (T z : Int) : Prop :=
  w64 r.2.2.1 ∧ (-10000 ≤ r.2.1 ∧ r.2.1 ≤ 10000) ∧ (T = 0 → r.2.2.1 = 0 ∧ r.2.2.2.1 = false) ∧
  (T ≠ 0 → (¬ (r.2.2.1 = 0 ∧ r.2.2.2.1 = false)) ∧ r.1 = decide (T < 0) ∧ ∀ f mode, pk f mode r.1 r.2.1 r.2.2.1 r.2.2.2.1 = pk f mode (decide (T < 0)) (-z) (if T < 0 then -T else T) false)
theorem std_one (n : Bool) (e A z : Int) (he : -5000 ≤ e ∧ e ≤ 5000) (hz : 0 ≤ e + z) (hA : w64 A) : Std (n, e, A, false, ()) (sv n (A * 2 ^ (e + z).toNat)) z := by
  have p := p2_pos (e + z).toNat
  refine ⟨hA, ⟨by simp only; omega, by simp only; omega⟩, fun h => ⟨?_, rfl⟩, fun h => ?_⟩
  · unfold sv at h
    have hm : A * 2 ^ (e + z).toNat = 0 := by split at h <;> omega
    rcases Int.mul_eq_zero.1 hm with k | k
    · exact k
    · omega
  · have hA0 : A ≠ 0 := by intro k; apply h; rw [k]; unfold sv; simp
    have hp : 0 < A * 2 ^ (e + z).toNat := Int.mul_pos (by have := hA.1; omega) p
    have hn : n = decide (sv n (A * 2 ^ (e + z).toNat) < 0) := by
      unfold sv; cases n <;> simp <;> omega
    refine ⟨fun k => hA0 k.1, hn, fun f mode => ?_⟩
    have habs : (if sv n (A * 2 ^ (e + z).toNat) < 0 then -sv n (A * 2 ^ (e + z).toNat) else sv n (A * 2 ^ (e + z).toNat)) = A * 2 ^ (e + z).toNat := by
      unfold sv; cases n <;> simp <;> omega
    rw [habs, ← hn, pk_shift _ _ _ _ _ _ hA.1]
    simp only
    rw [show -z + (((e + z).toNat : Nat) : Int) = e by omega]
theorem std_two (n m : Bool) (ea A eb B z : Int) (hA : 2 ^ 61 ≤ A ∧ A < 2 ^ 62) (hB : 2 ^ 61 ≤ B ∧ B < 2 ^ 62) (hB14 : B % 2 ^ 14 = 0) (he : -5000 ≤ eb ∧ eb ≤ ea ∧ ea ≤ 5000) (hord : eb = ea → B ≤ A) (hz : 0 ≤ eb + z) :
    Std (n, ea, (if n = m then A + B / 2 ^ (ea - eb).toNat else A - B / 2 ^ (ea - eb).toNat - (if B % 2 ^ (ea - eb).toNat ≠ 0 then 1 else 0)), decide (B % 2 ^ (ea - eb).toNat ≠ 0), ())
      (sv n (A * 2 ^ (ea + z).toNat) + sv m (B * 2 ^ (eb + z).toNat)) z := by
  have c61 : (2 : Int) ^ 61 = 2305843009213693952 := rfl
  have c62 : (2 : Int) ^ 62 = 4611686018427387904 := rfl
  have c14 : (2 : Int) ^ 14 = 16384 := rfl
  obtain ⟨d, hd⟩ : ∃ d : Nat, ea = eb + d := ⟨(ea - eb).toNat, by omega⟩
  rw [show (ea - eb).toNat = d by omega]
  have pd := p2_pos d
  have pz := p2_pos (eb + z).toNat
  have hd14 : B % 2 ^ d ≠ 0 → 15 ≤ d := by
    intro h; apply Nat.not_lt.1; intro k; apply h
    have e := mod_p2 B d (14 - d)
    rw [show d + (14 - d) = 14 by omega, hB14] at e
    have n1 := Int.emod_nonneg B (show (2 : Int) ^ d ≠ 0 by omega)
    have n2 : 0 ≤ 2 ^ d * (B / 2 ^ d % 2 ^ (14 - d)) := Int.mul_nonneg (by omega) (Int.emod_nonneg _ (by have := p2_pos (14 - d); omega))
    omega
  have hdiv := Int.emod_add_mul_ediv B (2 ^ d)
  have hm0 := Int.emod_nonneg B (show (2 : Int) ^ d ≠ 0 by omega)
  have hm1 := Int.emod_lt_of_pos B pd
  have hl0 : 0 ≤ B / 2 ^ d := Int.ediv_nonneg (by omega) (by omega)
  have hlow : B / 2 ^ d ≤ B := Int.ediv_le_self _ (by omega)
  have hlow15 : 15 ≤ d → B / 2 ^ d ≤ 140737488355328 := by
    intro k
    have a : B / 2 ^ d ≤ B / 2 ^ 15 := by
      have e : B / 2 ^ d = B / 2 ^ 15 / 2 ^ (d - 15) := by rw [div_p2]; congr 2; omega
      rw [e]; exact Int.ediv_le_self _ (Int.ediv_nonneg (by omega) (by decide))
    rw [show (2 : Int) ^ 15 = 32768 from rfl] at a
    omega
  have hAB : B ≤ A * 2 ^ d := by
    by_cases k : d = 0
    · subst k; simp; exact hord (by omega)
    · have : A * 2 ≤ A * 2 ^ d := Int.mul_le_mul_of_nonneg_left (by have := p2_le (show 1 ≤ d by omega); omega) (by omega)
      omega
  have hdA : B / 2 ^ d ≤ A := by
    have := Int.ediv_le_ediv pd hAB
    rwa [Int.mul_ediv_cancel _ (by omega)] at this
  have hT : sv n (A * 2 ^ (ea + z).toNat) + sv m (B * 2 ^ (eb + z).toNat) = sv n ((if n = m then A * 2 ^ d + B else A * 2 ^ d - B) * 2 ^ (eb + z).toNat) := by
    rw [show (ea + z).toNat = d + (eb + z).toNat by omega, p2_add, ← Int.mul_assoc]
    unfold sv
    cases n <;> cases m <;> simp [Int.add_mul, Int.sub_mul] <;> omega
  have hS : (if n = m then A + B / 2 ^ d else A - B / 2 ^ d - (if B % 2 ^ d ≠ 0 then 1 else 0)) = (if n = m then A * 2 ^ d + B else A * 2 ^ d - B) / 2 ^ d ∧ (B % 2 ^ d ≠ 0 ↔ (if n = m then A * 2 ^ d + B else A * 2 ^ d - B) % 2 ^ d ≠ 0) := by
    by_cases hnm : n = m
    · rw [if_pos hnm, if_pos hnm, Int.add_comm (A * 2 ^ d), Int.add_mul_ediv_right _ _ (by omega), Int.add_mul_emod_self_right]
      exact ⟨by omega, Iff.rfl⟩
    · rw [if_neg hnm, if_neg hnm]
      generalize hP : (2 : Int) ^ d = P at *
      by_cases h0 : B % P = 0
      · have e : A * P - B = (A - B / P) * P := by rw [Int.sub_mul, Int.mul_comm (B / P)]; omega
        rw [e, Int.mul_ediv_cancel _ (by omega), Int.mul_emod_left]
        simp [h0]
      · have e : A * P - B = (P - B % P) + (A - B / P - 1) * P := by
          rw [Int.sub_mul, Int.sub_mul, Int.mul_comm (B / P)]; omega
        rw [e, Int.add_mul_ediv_right _ _ (by omega), Int.add_mul_emod_self_right]
        rw [Int.ediv_eq_zero_of_lt (a := P - B % P) (b := P) (by omega) (by omega), Int.emod_eq_of_lt (a := P - B % P) (b := P) (by omega) (by omega)]
        rw [if_pos h0]
        exact ⟨by omega, ⟨fun _ => by omega, fun _ => h0⟩⟩
  have hZ0 : 0 ≤ (if n = m then A * 2 ^ d + B else A * 2 ^ d - B) := by
    have := Int.mul_nonneg (show 0 ≤ A by omega) (show (0 : Int) ≤ 2 ^ d by omega)
    split <;> omega
  have hSw : w64 (if n = m then A + B / 2 ^ d else A - B / 2 ^ d - (if B % 2 ^ d ≠ 0 then 1 else 0)) := by
    refine ⟨?_, ?_⟩
    · split
      · omega
      · split
        · rename_i h; have := hlow15 (hd14 h); omega
        · omega
    · split
      · omega
      · split <;> omega
  have hbig : B % 2 ^ d ≠ 0 → 2305843009213693952 - 140737488355328 - 1 ≤ (if n = m then A + B / 2 ^ d else A - B / 2 ^ d - (if B % 2 ^ d ≠ 0 then 1 else 0)) := by
    intro h
    have := hlow15 (hd14 h)
    split
    · omega
    · omega
  rw [hT]
  have hones : decide (B % 2 ^ d ≠ 0) = decide ((if n = m then A * 2 ^ d + B else A * 2 ^ d - B) % 2 ^ d ≠ 0) := decide_eq_decide.2 hS.2
  rw [hones]
  rw [hS.1] at hSw hbig ⊢
  have hbig := fun h => hbig (hS.2.2 h)
  generalize (if n = m then A * 2 ^ d + B else A * 2 ^ d - B) = Z at *
  have hsz : sv n (Z * 2 ^ (eb + z).toNat) = 0 ↔ Z = 0 := by
    constructor
    · intro h
      have hm : Z * 2 ^ (eb + z).toNat = 0 := by unfold sv at h; split at h <;> omega
      rcases Int.mul_eq_zero.1 hm with k | k
      · exact k
      · omega
    · intro h; subst h; unfold sv; simp
  refine ⟨hSw, ⟨by simp only; omega, by simp only; omega⟩, fun h => ?_, fun h => ?_⟩
  · have := hsz.1 h; subst this; simp
  · have hZ : Z ≠ 0 := fun k => h (hsz.2 k)
    have hp : 0 < Z * 2 ^ (eb + z).toNat := Int.mul_pos (by omega) pz
    have hn : n = decide (sv n (Z * 2 ^ (eb + z).toNat) < 0) := by
      unfold sv; cases n <;> simp <;> omega
    refine ⟨fun k => ?_, hn, fun f mode => ?_⟩
    · have k1 : Z / 2 ^ d = 0 := k.1
      have k2 : Z % 2 ^ d = 0 := by simpa using k.2
      have := Int.emod_add_mul_ediv Z (2 ^ d)
      rw [k1, k2] at this; apply hZ; rw [← this]; simp
    have habs : (if sv n (Z * 2 ^ (eb + z).toNat) < 0 then -sv n (Z * 2 ^ (eb + z).toNat) else sv n (Z * 2 ^ (eb + z).toNat)) = Z * 2 ^ (eb + z).toNat := by
      unfold sv; cases n <;> simp <;> omega
    rw [habs, ← hn, pk_shift _ _ _ _ _ _ hZ0]
    simp only
    rw [show -z + (((eb + z).toNat : Nat) : Int) = eb by omega]
    by_cases h0 : Z % 2 ^ d = 0
    · have e : Z = Z / 2 ^ d * 2 ^ d := by
        have := Int.emod_add_mul_ediv Z (2 ^ d); rw [h0, Int.mul_comm] at this; omega
      have := pk_shift f mode n eb (Z / 2 ^ d) d hSw.1
      rw [← e] at this
      rw [this, hd]; simp [h0]
    · have := pk_coarse' f mode n eb Z d (by have := hbig h0; have := fmt_bd f; omega)
      rw [hd]; exact this
theorem exact_eq (n m : Bool) (ea A eb B z : Int) (hA : 0 ≤ A ∧ A < 2 ^ 48) (hB : 0 ≤ B ∧ B < 2 ^ 48) (hea : -2000 ≤ ea ∧ ea ≤ 2000) (heb : -2000 ≤ eb ∧ eb ≤ 2000) (hza : 61 ≤ ea + z) (hzb : 61 ≤ eb + z) :
    ∃ r, F_969 (n, ea, A, false, ()) (m, eb, B, false, ()) = some r ∧ Std r (sv n (A * 2 ^ (ea + z).toNat) + sv m (B * 2 ^ (eb + z).toNat)) z := by
  have c48 : (2 : Int) ^ 48 = 281474976710656 := rfl
  have c62 : (2 : Int) ^ 62 = 4611686018427387904 := rfl
  have c61 : (2 : Int) ^ 61 = 2305843009213693952 := rfl
  unfold F_969
  by_cases hA0 : A = 0
  · subst hA0
    refine ⟨_, rfl, ?_⟩
    have := std_one m eb B z (by omega) (by omega) ⟨hB.1, by omega⟩
    have e : sv n (0 * 2 ^ (ea + z).toNat) = 0 := by unfold sv; simp
    rw [e, Int.zero_add]; exact this
  have hAb : (A == 0) = false := by simpa using hA0
  by_cases hB0 : B = 0
  · subst hB0
    simp only [hAb, cond_false]
    refine ⟨_, rfl, ?_⟩
    have := std_one n ea A z (by omega) (by omega) ⟨hA.1, by omega⟩
    have e : sv m (0 * 2 ^ (eb + z).toNat) = 0 := by unfold sv; simp
    rw [e, Int.add_zero]; exact this
  have hBb : (B == 0) = false := by simpa using hB0
  have hAp : 0 < A := by omega
  have hBp : 0 < B := by omega
  have norm : ∀ (A : Int), 0 < A → A < 2 ^ 48 → 2 ^ 61 ≤ A * 2 ^ (61 - lg A) ∧ A * 2 ^ (61 - lg A) < 2 ^ 62 ∧ (A * 2 ^ (61 - lg A)) % 2 ^ 14 = 0 ∧ lg A ≤ 47 := by
    intro A hp hl
    have hg := lg_bd (k := 48) hp hl
    have hlt := lg_lt hp
    have hle := lg_le hp
    refine ⟨?_, ?_, ?_, by omega⟩
    · have := Int.mul_le_mul_of_nonneg_right hle (show (0 : Int) ≤ 2 ^ (61 - lg A) by have := p2_pos (61 - lg A); omega)
      rw [← p2_add, show lg A + (61 - lg A) = 61 by omega] at this
      exact this
    · have := Int.mul_lt_mul_of_pos_right hlt (p2_pos (61 - lg A))
      rw [← p2_add, show lg A + 1 + (61 - lg A) = 62 by omega] at this
      exact this
    · exact mul_p2_mod _ _ _ (by omega)
  have nA := norm A hAp hA.2
  have nB := norm B hBp hB.2
  simp only [hAb, hBb, cond_false, full_eq n ea A false (by omega) ⟨hAp, by omega⟩, full_eq m eb B false (by omega) ⟨hBp, by omega⟩, Option.bind_some]
  have tA : A * 2 ^ (ea + z).toNat = A * 2 ^ (61 - lg A) * 2 ^ (ea - (61 - (lg A : Int)) + z).toNat := by
    rw [Int.mul_assoc, ← p2_add]; congr 2; omega
  have tB : B * 2 ^ (eb + z).toNat = B * 2 ^ (61 - lg B) * 2 ^ (eb - (61 - (lg B : Int)) + z).toNat := by
    rw [Int.mul_assoc, ← p2_add]; congr 2; omega
  rw [tA, tB]
  generalize hxa : ea - (61 - (lg A : Int)) = x at *
  generalize hxb : eb - (61 - (lg B : Int)) = y at *
  have hx : -3000 ≤ x ∧ x ≤ 3000 ∧ 0 ≤ x + z := by omega
  have hy : -3000 ≤ y ∧ y ≤ 3000 ∧ 0 ≤ y + z := by omega
  generalize A * 2 ^ (61 - lg A) = P at *
  generalize B * 2 ^ (61 - lg B) = Q at *
  have lowb : ∀ (d : Nat) (Q : Int), 0 ≤ Q → Q < 2 ^ 62 → 0 ≤ Q / 2 ^ d ∧ Q / 2 ^ d ≤ Q := fun d Q h0 h1 => ⟨Int.ediv_nonneg h0 (by have := p2_pos d; omega), Int.ediv_le_self _ h0⟩
  have key : ∀ (n m : Bool) (x P y Q : Int), (2 ^ 61 ≤ P ∧ P < 2 ^ 62) → (2 ^ 61 ≤ Q ∧ Q < 2 ^ 62 ∧ Q % 2 ^ 14 = 0) → (-3000 ≤ x ∧ x ≤ 3000) → (-3000 ≤ y ∧ y ≤ 3000 ∧ 0 ≤ y + z) → y ≤ x → (y = x → Q ≤ P) →
      ∃ r, ((F_97a Q (IntKind.i64.wrap (x - y))).bind fun r14 =>
          bif n == m then
            some (n, x, IntKind.u64.wrap (P + r14.1), r14.2)
          else
            bif r14.2.1 then
              some (n, x, IntKind.u64.wrap (IntKind.u64.wrap (P - r14.1) - 1), r14.2)
            else
              some (n, x, IntKind.u64.wrap (P - r14.1), r14.2)) = some r ∧ Std r (sv n (P * 2 ^ (x + z).toNat) + sv m (Q * 2 ^ (y + z).toNat)) z := by
    intro n m x P y Q hP hQ hx hy hyx hord
    have st := std_two n m x P y Q z hP ⟨hQ.1, hQ.2.1⟩ hQ.2.2 (by omega) hord (by omega)
    have lb := lowb (x - y).toNat Q (by omega) hQ.2.1
    refine ⟨_, ?_, st⟩
    rw [wi64 (by omega), shr_eq ⟨by omega, by omega⟩ (by omega)]
    simp only [Option.bind_some]
    have sw := st.1
    simp only at sw
    by_cases hnm : n = m
    · subst hnm
      simp only [if_true, BEq.rfl, cond_true]
      rw [wu64 (by omega)]
    · have hb : (n == m) = false := by simpa using hnm
      simp only [if_neg hnm, hb, cond_false] at sw ⊢
      by_cases ho : Q % 2 ^ (x - y).toNat = 0
      · simp only [ho] at sw ⊢
        simp at sw ⊢
        rw [wu64 (by omega)]
      · have : decide (Q % 2 ^ (x - y).toNat ≠ 0) = true := by simpa using ho
        rw [if_pos ho] at sw
        rw [this, if_pos ho, wu64 (n := P - Q / 2 ^ (x - y).toNat) (by omega), wu64 (by omega)]; rfl
  have sw1 : ∀ {a b : Option NumT} {T : Int} {p : Bool}, (∃ r, a = some r ∧ Std r T z) → (∃ r, b = some r ∧ Std r T z) → ∃ r, (bif p then a else b) = some r ∧ Std r T z := by
    intro a b T p ha hb; cases p
    · exact hb
    · exact ha
  by_cases h1 : x < y
  · rw [decide_eq_true h1]
    simp only [cond_true]
    have := key m n y Q x P ⟨nB.1, nB.2.1⟩ ⟨nA.1, nA.2.1, nA.2.2.1⟩ ⟨hy.1, hy.2.1⟩ ⟨hx.1, hx.2.1, hx.2.2⟩ (by omega) (by omega)
    rw [Int.add_comm]; exact this
  · rw [decide_eq_false h1]
    simp only [cond_false]
    by_cases h2 : x = y
    · have : (x == y) = true := by simpa using h2
      rw [this]
      simp only [cond_true]
      by_cases h3 : P < Q
      · rw [decide_eq_true h3]
        simp only [cond_true]
        have := key m n y Q x P ⟨nB.1, nB.2.1⟩ ⟨nA.1, nA.2.1, nA.2.2.1⟩ ⟨hy.1, hy.2.1⟩ ⟨hx.1, hx.2.1, hx.2.2⟩ (by omega) (by omega)
        rw [Int.add_comm]; exact this
      · rw [decide_eq_false h3]
        simp only [cond_false]
        exact key n m x P y Q ⟨nA.1, nA.2.1⟩ ⟨nB.1, nB.2.1, nB.2.2.1⟩ ⟨hx.1, hx.2.1⟩ ⟨hy.1, hy.2.1, hy.2.2⟩ (by omega) (by omega)
    · have : (x == y) = false := by simpa using h2
      rw [this]
      simp only [cond_false]
      exact key n m x P y Q ⟨nA.1, nA.2.1⟩ ⟨nB.1, nB.2.1, nB.2.2.1⟩ ⟨hx.1, hx.2.1⟩ ⟨hy.1, hy.2.1, hy.2.2⟩ (by omega) (by omega)
abbrev EXC0 : ExcT := (false, false, false, false, false, ())
def totS (f mode T : Int) : Int × ExcT × Unit := if T = 0 then (sgn f (decide (mode = 3)), EXC0, ()) else pk f mode (decide (T < 0)) (-298) (if T < 0 then -T else T) false
end Go.Proofs.YtkmkhcmfpbffjaaGreat.VI
