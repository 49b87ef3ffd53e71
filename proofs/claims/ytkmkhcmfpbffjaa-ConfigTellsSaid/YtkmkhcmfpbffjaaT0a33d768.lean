import Derived.Test.YtkmkhcmfpbffjaaT026625e3
namespace Go.Proofs.Ytkmkhcmfpbffjaa.VI
set_option linter.unusedVariables false
set_option linter.unusedSimpArgs false
set_option maxRecDepth 100000
set_option maxHeartbeats 4000000
abbrev fInf : Int := 2139095040
theorem wid2 : F_92d 2 = some (8, 23, ()) := rfl
theorem widr2 : F_92b 2 = some (8, 23, ()) := rfl
theorem mask2 : F_933 2 = some 4294967295 := by decide
theorem maskr2 : F_931 2 = some 4294967295 := by decide
theorem top2 : F_929 2 = some 255 := by decide
theorem parts2 {a : Int} (h0 : 0 ≤ a) (h1 : a < 4294967296) : F_928 2 a = some (decide (a / 2147483648 = 1), a / 8388608 % 256, a % 8388608, ()) := by
  have e1 : bits .and .u32 (a / 2147483648) 1 = a / 2147483648 % 2 := a1 _ (by omega) (by omega)
  have e2 : bits .and .u32 (a / 8388608) 255 = a / 8388608 % 256 := a8 _ (by omega) (by omega)
  have e3 : bits .and .u32 a 8388607 = a % 8388608 := a23 _ h0 h1
  have e4 : IntKind.i64.wrap (a / 8388608 % 256) = a / 8388608 % 256 := wi64 (by omega)
  have e5 : a / 2147483648 % 2 = a / 2147483648 := by omega
  unfold F_928
  rw [wid2]
  show some _ = _
  have : ((bits .and .u32 (a / 2147483648) 1 == 1), IntKind.i64.wrap (bits .and .u32 (a / 8388608) 255), bits .and .u32 a 8388607, ()) = (decide (a / 2147483648 = 1), a / 8388608 % 256, a % 8388608, ()) := by
    rw [e1, e2, e3, e4, e5]; rfl
  exact congrArg some this
theorem pos_eq {a : Int} (h0 : 0 ≤ a) (h1 : a < 4294967296) : F_921 a = some (decide (a < fInf)) := by
  have e1 : bits .and .u32 (a / 2147483648) 1 = a / 2147483648 % 2 := a1 _ (by omega) (by omega)
  have e2 : bits .and .u32 (a / 8388608) 255 = a / 8388608 % 256 := a8 _ (by omega) (by omega)
  have e4 : IntKind.i64.wrap (a / 8388608 % 256) = a / 8388608 % 256 := wi64 (by omega)
  unfold F_921
  rw [e1, e2, e4, bif_dec]
  split
  · congr 1
    by_cases h : a / 2147483648 % 2 = 1
    · rw [h]; have : ¬ a < fInf := by unfold fInf; omega
      simp [this]
    · have h2 : (a / 2147483648 % 2 == 1) = false := by simpa using h
      have : a < fInf := by unfold fInf; omega
      rw [h2]; simp [this]
  · refine some_f ?_
    unfold fInf; omega
theorem classr2 {a : Int} (h0 : 0 ≤ a) (h1 : a < 2147483648) : F_923 2 a = some (decide (a < fInf)) := by
  have e1 : bits .and .u32 a 4294967295 = a := a32 _ (by omega) (by omega)
  have e2 : bits .and .u32 (a / 8388608) 255 = a / 8388608 % 256 := a8 _ (by omega) (by omega)
  have e3 : bits .and .u32 a 8388607 = a % 8388608 := a23 _ h0 (by omega)
  have e4 : IntKind.i64.wrap (a / 8388608 % 256) = a / 8388608 % 256 := wi64 (by omega)
  have e5 : IntKind.u64.wrap (a % 8388608) = a % 8388608 := wu64 (by omega)
  have hp : F_92c 2 a = some (decide (a / 2147483648 = 1), a / 8388608 % 256, a % 8388608, ()) := by
    unfold F_92c
    rw [widr2, maskr2]
    show some _ = _
    have : ((bits .and .u32 a 4294967295 / 2147483648 == 1), IntKind.i64.wrap (bits .and .u32 (bits .and .u32 a 4294967295 / 8388608) 255), IntKind.u64.wrap (bits .and .u32 (bits .and .u32 a 4294967295) 8388607), ()) = (decide (a / 2147483648 = 1), a / 8388608 % 256, a % 8388608, ()) := by
      rw [e1, e2, e3, e4, e5]; rfl
    exact congrArg some this
  have hc : F_927 2 a = some (if a / 8388608 % 256 = 0 then (if a % 8388608 = 0 then 0 else 1) else if a / 8388608 % 256 < 255 then 2 else if a % 8388608 = 0 then 3 else if a % 8388608 / 4194304 = 1 then 4 else 5) := by
    unfold F_927
    rw [widr2, hp]
    show (bif (a / 8388608 % 256 == 0) then _ else _) = _
    rw [bif_eq]
    split
    · show (bif (a % 8388608 == 0) then _ else _) = _
      rw [bif_eq]
      split
      · rfl
      · rename_i h _
        show (bif (a / 8388608 % 256 == 0) then _ else _) = _
        rw [bif_eq, if_pos h]
    · rename_i h
      show (bif (a / 8388608 % 256 == 0) then _ else _) = _
      rw [bif_eq, if_neg h]
      show (bif (decide (a / 8388608 % 256 < 255)) then _ else _) = _
      rw [bif_dec]
      split
      · rfl
      · show (bif (a % 8388608 == 0) then _ else _) = _
        rw [bif_eq]
        split
        · rfl
        · show (bif (a % 8388608 / 4194304 == 1) then _ else _) = _
          rw [bif_eq]
          split <;> rfl
  unfold F_923
  rw [hc]
  show some _ = _
  refine some_dec ?_
  unfold fInf
  repeat' split
  all_goals omega
theorem plus_eq {a : Int} (h0 : 0 ≤ a) (h1 : a < 4294967296) : F_919 a = some (decide (a < fInf)) := by
  unfold F_919
  rw [bif_eq]
  split
  · rw [classr2 h0 (by omega)]; rfl
  · refine some_f ?_
    unfold fInf; omega
theorem class2 {a : Int} (h0 : 0 ≤ a) (h1 : a < fInf) : ∃ c, F_932 2 a = some c ∧ c < 4 ∧ (c = 0 ↔ a = 0) := by
  unfold fInf at h1
  refine ⟨if a / 8388608 % 256 = 0 then (if a % 8388608 = 0 then 0 else 1) else 2, ?_, ?_, ?_⟩
  · unfold F_932
    rw [wid2, parts2 h0 (by omega), top2]
    show (bif (a / 8388608 % 256 == 0) then _ else _) = _
    rw [bif_eq]
    split
    · show (bif (a % 8388608 == 0) then _ else _) = _
      rw [bif_eq]
      split
      · rfl
      · rename_i h _
        show (bif (a / 8388608 % 256 == 0) then _ else _) = _
        rw [bif_eq, if_pos h]
    · rename_i h
      show (bif (a / 8388608 % 256 == 0) then _ else _) = _
      rw [bif_eq, if_neg h]
      show (bif (decide (a / 8388608 % 256 < 255)) then _ else _) = _
      rw [bif_dec, if_pos (by omega)]
  · repeat' split
    all_goals omega
  · repeat' split
    all_goals omega
theorem nan2 {a : Int} (h0 : 0 ≤ a) (h1 : a < fInf) : F_92e 2 a = some false := by
  obtain ⟨c, h, h2, _⟩ := class2 h0 h1
  unfold F_92e
  rw [h]; show some _ = _
  simp; omega
theorem zero2 {a : Int} (h0 : 0 ≤ a) (h1 : a < fInf) : F_930 2 a = some (decide (a = 0)) := by
  obtain ⟨c, h, _, h2⟩ := class2 h0 h1
  unfold F_930
  rw [h]; show some _ = _
  refine congrArg some ?_
  by_cases hc : c = 0
  · have := h2.1 hc; subst hc this; rfl
  · have : ¬ a = 0 := fun e => hc (h2.2 e)
    have h3 : (c == 0) = false := by simpa using hc
    rw [h3]; simp [this]
theorem key2 {a : Int} (h0 : 0 ≤ a) (h1 : a < fInf) : F_92f 2 a = some a := by
  unfold fInf at h1
  unfold F_92f F_925
  rw [mask2, parts2 h0 (by omega)]
  have : ¬ a / 2147483648 = 1 := by omega
  show (bif (!decide (a / 2147483648 = 1)) then _ else _) = _
  rw [bif_not, bif_dec, if_neg this, a32 _ h0 (by omega), wi64 (by omega)]
theorem less2 {a b : Int} (h0 : 0 ≤ a) (h1 : a < fInf) (k0 : 0 ≤ b) (k1 : b < fInf) : F_926 2 a b = some (decide (a < b)) := by
  unfold F_926 F_92a
  rw [nan2 h0 h1, nan2 k0 k1, key2 h0 h1, key2 k0 k1, zero2 h0 h1, zero2 k0 k1]
  simp only [Option.bind_some, cond_false, bif_dec]
  repeat' split
  all_goals (simp only [Option.bind_some]; first | (refine some_dec ?_; omega) | (congr 1; simp; omega))
theorem above_eq {a b : Int} (h0 : 0 ≤ a) (h1 : a < fInf) (k0 : 0 ≤ b) (k1 : b < fInf) : F_922 a b = some (decide (b < a)) := by
  unfold F_922
  rw [less2 k0 k1 h0 h1]; rfl
def wlist (k : Int) : List Int := if k = 0 then [2, 3] else if k = 1 then [3, 2, 2] else if k = 2 then [2, 4, 3] else if k = 3 then [1, 2, 2, 2] else if k = 4 then [2, 2] else [4, 3, 2]
abbrev CfgT : Type := List Int × Int × Int × Int × Int × Int × Int × Int × Int × Int × Int × Int × Int × Int × Int × Int × Int × Int × Bool × Int × Int × Int × Int × Int × Int × Int × Unit
def cfg (a b c d s : Int) : CfgT :=
  (wlist (a % 6), (a / 6) % 3, b % 4, (b / 4) % 2, (b / 8) % 4, (b / 32) % 3, [1008981770, 1036831949, 1065353216, 981668463].getD (c % 4).toNat 0, [0, 1063675494, 1056964608].getD (c / 4 % 3).toNat 0, [1065336439, 1063675494].getD (c / 12 % 2).toNat 0,
    [841731191, 981668463].getD (c / 24 % 2).toNat 0, [0, 1008981770].getD (c / 48 % 2).toNat 0, [0, 1065353216, 1036831949].getD (d % 3).toNat 0, (d / 3) % 4, (d / 3) % 4 + d % 17 + 1, (d / 9) % 4 + 1, (d / 36) % 2 + 1, s, [0, 536870912, 2147483647, 0].getD (c % 4).toNat 0, d % 5 == 0,
    b % 3 + c % (a % 25 + 1), b % 3, b % 3 + a % 25, b % 3 + 1, c % 2 + 1, d % 3 + 1, a % 4, ())
theorem in_eq (a b c : Int) : F_920 a b c = some (decide (b ≤ a ∧ a ≤ c)) := by
  unfold F_920
  by_cases h : b ≤ a <;> simp [h]
theorem inr_eq (a b c : Int) : F_918 a b c = some (decide (b ≤ a ∧ a ≤ c)) := by
  unfold F_918
  by_cases h : b ≤ a <;> simp [h]
theorem least_bad {P : Nat → Prop} [DecidablePred P] (n : Nat) : (∀ j, j < n → P j) ∨ ∃ k, k < n ∧ ¬ P k ∧ ∀ j, j < k → P j := by
  induction n with
  | zero => left; intro j hj; omega
  | succ n ih =>
    rcases ih with h | ⟨k, h1, h2, h3⟩
    · by_cases hn : P n
      · left; intro j hj
        by_cases e : j = n
        · subst e; exact hn
        · exact h j (by omega)
      · right; exact ⟨n, by omega, hn, h⟩
    · right; exact ⟨k, by omega, h2, h3⟩
def pr (w : List Int) : Nat → Int
  | 0 => 0
  | i + 1 => pr w i + (w.getD i 0 + 1) * w.getD (i + 1) 0
def wok (w : List Int) : Prop := 2 ≤ w.length ∧ w.length ≤ 65 ∧ ∀ j, j < w.length → 1 ≤ w.getD j 0 ∧ w.getD j 0 ≤ 4096
theorem mul_bd {a b : Int} (h : 1 ≤ a ∧ a ≤ 4096) (k : 1 ≤ b ∧ b ≤ 4096) : 0 ≤ (a + 1) * b ∧ (a + 1) * b ≤ 16781312 := by
  constructor
  · exact Int.mul_nonneg (by omega) (by omega)
  · have := Int.mul_le_mul (a := a + 1) (b := b) (c := 4097) (d := 4096) (by omega) k.2 (by omega) (by omega)
    omega
theorem pr_bd {w : List Int} {n : Nat} (h : ∀ j, j < n → 1 ≤ w.getD j 0 ∧ w.getD j 0 ≤ 4096) : ∀ i, i < n → 0 ≤ pr w i ∧ pr w i ≤ i * 16781312
  | 0, _ => by simp [pr]
  | i + 1, hi => by
    have := pr_bd h i (by omega)
    have k := mul_bd (h i (by omega)) (h (i + 1) hi)
    simp only [pr]; push_cast; omega
theorem getD_in {w : List Int} {i : Nat} (h : i < w.length) : (0 ≤ (i : Int) ∧ (i : Int) < (w.length : Int)) = True := by simp; omega
theorem ltI {i n : Nat} (h : i < n) : ((i : Int) < (n : Int)) = True := by simp; omega
theorem natnn (n : Nat) : ((0 : Int) ≤ (n : Int)) = True := by simp
theorem ltI' (n : Nat) : ((n : Int) < (n : Int)) = False := by simp
theorem params_step {w : List Int} (hl : w.length ≤ 65) {k : Nat} (hk : k ≤ w.length) (h : ∀ j, j < k → 1 ≤ w.getD j 0 ∧ w.getD j 0 ≤ 4096) {i : Nat} (hi : i < k) (R : Type) (kn ko) :
    st_913_0 R ((w, pr w (i - 1), w, (w.length : Int), (i : Int), ()), ()) kn ko = kn ((w, pr w (i + 1 - 1), w, (w.length : Int), ((i + 1 : Nat) : Int), ()), ()) := by
  have h1 : i < w.length := by omega
  have w1 : IntKind.i64.wrap ((i : Int) + 1) = (i : Int) + 1 := wi64 (by omega)
  have hh := h i hi
  simp only [st_913_0, ltI h1, getD_in h1, natnn, and_self, decide_true, cond_true, in_eq, Option.bind_some, List.take_length, Int.toNat_natCast, hh, Bool.not_true, cond_false, w1]
  cases i with
  | zero => simp [pr]
  | succ i =>
    have e : IntKind.i64.wrap (((i + 1 : Nat) : Int) - 1) = (i : Int) := (wi64 (by omega)).trans (by omega)
    have g : (((i + 1 : Nat) : Int) > 0) = True := by simp
    have bd := pr_bd h i (by omega)
    have k2 := mul_bd (h i (by omega)) hh
    have hh2 := h i (by omega)
    have e2 : IntKind.i64.wrap (w.getD i 0 + 1) = w.getD i 0 + 1 := wi64 (by omega)
    have e3 : IntKind.i64.wrap ((w.getD i 0 + 1) * w.getD (i + 1) 0) = (w.getD i 0 + 1) * w.getD (i + 1) 0 := wi64 (by omega)
    have e4 : IntKind.i64.wrap (pr w i + (w.getD i 0 + 1) * w.getD (i + 1) 0) = pr w i + (w.getD i 0 + 1) * w.getD (i + 1) 0 := wi64 (by omega)
    simp only [e, g, ltI (show i < w.length by omega), natnn, and_self, decide_true, cond_true, getD_in (show i < w.length by omega), Int.toNat_natCast, Nat.add_sub_cancel, e2, e3, e4, pr]
    rfl
theorem params_eq (w : List Int) : (wok w ∧ F_913 w = some (pr w (w.length - 1), decide (pr w (w.length - 1) ≤ 65536), ())) ∨ (¬ wok w ∧ F_913 w = some (0, false, ())) := by
  unfold F_913
  simp only [in_eq, Option.bind_some, bif_not, bif_dec, List.take_length]
  by_cases h0 : (2 : Int) ≤ (w.length : Int) ∧ (w.length : Int) ≤ 65
  · rw [if_pos h0]
    rcases least_bad (P := fun j => 1 ≤ w.getD j 0 ∧ w.getD j 0 ≤ 4096) w.length with h | ⟨k, h1, h2, h3⟩
    · left
      refine ⟨⟨by omega, by omega, h⟩, ?_⟩
      have := lim_seq (st := st_913_0) (fun i => ((w, pr w (i - 1), w, (w.length : Int), (i : Int), ()), ())) (b := Sum.inl ((pr w (w.length - 1), ()), ())) w.length (fun i hi R kn ko => params_step (by omega) (Nat.le_refl _) h hi R kn ko) (fun R kn ko => by
        simp only [st_913_0, ltI', decide_false, cond_false])
      simp only [pr, Nat.zero_sub, Int.natCast_zero] at this
      rw [this]; rfl
    · right
      refine ⟨fun hw => h2 (hw.2.2 k h1), ?_⟩
      have := lim_seq (st := st_913_0) (fun i => ((w, pr w (i - 1), w, (w.length : Int), (i : Int), ()), ())) (b := Sum.inr ((0, false, ()), ())) k (fun i hi R kn ko => params_step (by omega) (by omega) h3 hi R kn ko) (fun R kn ko => by
        have h2' : decide (1 ≤ w.getD k 0 ∧ w.getD k 0 ≤ 4096) = false := by simpa using h2
        simp only [st_913_0, ltI h1, getD_in h1, natnn, and_self, decide_true, cond_true, in_eq, Option.bind_some, List.take_length, Int.toNat_natCast, h2', Bool.not_false])
      simp only [pr, Nat.zero_sub, Int.natCast_zero] at this
      rw [this]; rfl
  · right
    rw [if_neg h0]
    exact ⟨fun hw => h0 ⟨by have := hw.1; omega, by have := hw.2.1; omega⟩, rfl⟩
theorem rparams_eq {w : List Int} (h : wok w) : F_91a w = some (pr w (w.length - 1)) := by
  obtain ⟨l1, l2, h⟩ := h
  unfold F_91a
  simp only [List.take_length]
  have := lim_seq (st := st_91a_0) (fun i => ((w, pr w i, (i : Int), ()), ())) (b := ((pr w (w.length - 1), ()), ())) (w.length - 1) (fun i hi R kn ko => by
    have w1 : IntKind.i64.wrap ((i : Int) + 1) = ((i + 1 : Nat) : Int) := by rw [wi64 (by omega)]; omega
    have h1 := h i (by omega)
    have h2 := h (i + 1) (by omega)
    have bd := pr_bd h i (by omega)
    have k2 := mul_bd h1 h2
    have e2 : IntKind.i64.wrap (w.getD i 0 + 1) = w.getD i 0 + 1 := wi64 (by omega)
    have e3 : IntKind.i64.wrap ((w.getD i 0 + 1) * w.getD (i + 1) 0) = (w.getD i 0 + 1) * w.getD (i + 1) 0 := wi64 (by omega)
    have e4 : IntKind.i64.wrap (pr w i + (w.getD i 0 + 1) * w.getD (i + 1) 0) = pr w i + (w.getD i 0 + 1) * w.getD (i + 1) 0 := wi64 (by omega)
    simp only [st_91a_0, w1, ltI (show i + 1 < w.length by omega), ltI (show i < w.length by omega), getD_in (show i < w.length by omega), getD_in (show i + 1 < w.length by omega), natnn, and_self, decide_true, cond_true, List.take_length, Int.toNat_natCast, e2, e3, e4, pr]) (fun R kn ko => by
    have w1 : IntKind.i64.wrap (((w.length - 1 : Nat) : Int) + 1) = (w.length : Int) := by rw [wi64 (by omega)]; omega
    simp only [st_91a_0, w1, ltI', decide_false, cond_false])
  simp only [pr, Int.natCast_zero] at this
  rw [this]; rfl
def mxTo (w : List Int) : Nat → Int
  | 0 => w.getD 0 0
  | i + 1 => max (mxTo w i) (w.getD (i + 1) 0)
theorem mxTo_le (w : List Int) (c : Int) : ∀ i, mxTo w i ≤ c ↔ ∀ j, j ≤ i → w.getD j 0 ≤ c
  | 0 => ⟨fun h j hj => by have : j = 0 := by omega
                           subst this; exact h, fun h => h 0 (Nat.le_refl _)⟩
  | i + 1 => by
    simp only [mxTo, Int.max_le, mxTo_le w c i]
    constructor
    · rintro ⟨h1, h2⟩ j hj
      by_cases e : j = i + 1
      · subst e; exact h2
      · exact h1 j (by omega)
    · intro h; exact ⟨fun j hj => h j (by omega), h _ (Nat.le_refl _)⟩
theorem mxTo_mem (w : List Int) : ∀ i, ∃ j, j ≤ i ∧ mxTo w i = w.getD j 0
  | 0 => ⟨0, Nat.le_refl _, rfl⟩
  | i + 1 => by
    obtain ⟨j, h1, h2⟩ := mxTo_mem w i
    simp only [mxTo]
    rcases Int.le_total (mxTo w i) (w.getD (i + 1) 0) with h | h
    · exact ⟨i + 1, Nat.le_refl _, by omega⟩
    · exact ⟨j, by omega, by omega⟩
theorem max_eq {w : List Int} (h : 1 ≤ w.length) (hl : w.length ≤ 1000) : F_917 w = some (mxTo w (w.length - 1)) := by
  unfold F_917
  have h1 : ¬ ((w.length : Int) < 1) := by omega
  have h2 : (0 : Int) ≤ 0 ∧ (0 : Int) < (w.length : Int) := by omega
  rw [bif_dec, if_neg h1, bif_dec, if_pos h2]
  simp only [List.take_length]
  have := lim_seq (st := st_917_0) (fun i => ((w, mxTo w i, ((i + 1 : Nat) : Int), ()), ())) (b := ((mxTo w (w.length - 1), ()), ())) (w.length - 1) (fun i hi R kn ko => by
    have w1 : IntKind.i64.wrap (((i + 1 : Nat) : Int) + 1) = ((i + 1 + 1 : Nat) : Int) := by rw [wi64 (by omega)]; omega
    simp only [st_917_0, w1, ltI (show i + 1 < w.length by omega), getD_in (show i + 1 < w.length by omega), natnn, and_self, decide_true, cond_true, List.take_length, Int.toNat_natCast, mx_eq, mxTo]) (fun R kn ko => by
    have e : w.length - 1 + 1 = w.length := by omega
    simp only [st_917_0, e, ltI', decide_false, cond_false])
  have e1 : ((0 + 1 : Nat) : Int) = 1 := rfl
  simp only [mxTo, e1] at this
  rw [this]; rfl
abbrev CfgT.w (c : CfgT) : List Int := c.1
abbrev CfgT.f (c : CfgT) : Int := c.2.1
abbrev CfgT.act (c : CfgT) : Int := c.2.2.1
abbrev CfgT.loss (c : CfgT) : Int := c.2.2.2.1
abbrev CfgT.opt (c : CfgT) : Int := c.2.2.2.2.1
abbrev CfgT.sched (c : CfgT) : Int := c.2.2.2.2.2.1
abbrev CfgT.rate (c : CfgT) : Int := c.2.2.2.2.2.2.1
abbrev CfgT.mu (c : CfgT) : Int := c.2.2.2.2.2.2.2.1
abbrev CfgT.beta (c : CfgT) : Int := c.2.2.2.2.2.2.2.2.1
abbrev CfgT.eps (c : CfgT) : Int := c.2.2.2.2.2.2.2.2.2.1
abbrev CfgT.decay (c : CfgT) : Int := c.2.2.2.2.2.2.2.2.2.2.1
abbrev CfgT.clip (c : CfgT) : Int := c.2.2.2.2.2.2.2.2.2.2.2.1
abbrev CfgT.warm (c : CfgT) : Int := c.2.2.2.2.2.2.2.2.2.2.2.2.1
abbrev CfgT.total (c : CfgT) : Int := c.2.2.2.2.2.2.2.2.2.2.2.2.2.1
abbrev CfgT.batch (c : CfgT) : Int := c.2.2.2.2.2.2.2.2.2.2.2.2.2.2.1
abbrev CfgT.accum (c : CfgT) : Int := c.2.2.2.2.2.2.2.2.2.2.2.2.2.2.2.1
abbrev CfgT.seed (c : CfgT) : Int := c.2.2.2.2.2.2.2.2.2.2.2.2.2.2.2.2.1
abbrev CfgT.drop (c : CfgT) : Int := c.2.2.2.2.2.2.2.2.2.2.2.2.2.2.2.2.2.1
abbrev CfgT.chance (c : CfgT) : Bool := c.2.2.2.2.2.2.2.2.2.2.2.2.2.2.2.2.2.2.1
abbrev CfgT.log (c : CfgT) : Int := c.2.2.2.2.2.2.2.2.2.2.2.2.2.2.2.2.2.2.2.1
abbrev CfgT.mi (c : CfgT) : Int := c.2.2.2.2.2.2.2.2.2.2.2.2.2.2.2.2.2.2.2.2.1
abbrev CfgT.ma (c : CfgT) : Int := c.2.2.2.2.2.2.2.2.2.2.2.2.2.2.2.2.2.2.2.2.2.1
abbrev CfgT.bk (c : CfgT) : Int := c.2.2.2.2.2.2.2.2.2.2.2.2.2.2.2.2.2.2.2.2.2.2.1
abbrev CfgT.gr (c : CfgT) : Int := c.2.2.2.2.2.2.2.2.2.2.2.2.2.2.2.2.2.2.2.2.2.2.2.1
abbrev CfgT.itv (c : CfgT) : Int := c.2.2.2.2.2.2.2.2.2.2.2.2.2.2.2.2.2.2.2.2.2.2.2.2.1
abbrev CfgT.save (c : CfgT) : Int := c.2.2.2.2.2.2.2.2.2.2.2.2.2.2.2.2.2.2.2.2.2.2.2.2.2.1
abbrev u32R (a : Int) : Prop := 0 ≤ a ∧ a < 4294967296
def cU (c : CfgT) : Prop := u32R c.rate ∧ u32R c.mu ∧ u32R c.beta ∧ u32R c.eps ∧ u32R c.decay ∧ u32R c.clip
def kindsP (c : CfgT) : Prop := (0 ≤ c.f ∧ c.f ≤ 2) ∧ (0 ≤ c.act ∧ c.act ≤ 3) ∧ (0 ≤ c.loss ∧ c.loss ≤ 1) ∧ (0 ≤ c.opt ∧ c.opt ≤ 3) ∧ (0 ≤ c.sched ∧ c.sched ≤ 2)
def numsP (c : CfgT) : Prop := c.rate < fInf ∧ c.mu < 1065353216 ∧ c.beta < 1065353216 ∧ (0 < c.eps ∧ c.eps < fInf) ∧ c.decay < fInf ∧ c.clip < fInf
def countsP (c : CfgT) : Prop := (1 ≤ c.total ∧ c.total ≤ 1073741824) ∧ (0 ≤ c.warm ∧ c.warm ≤ c.total) ∧ (1 ≤ c.batch ∧ c.batch ≤ 256) ∧ (1 ≤ c.accum ∧ c.accum ≤ 16) ∧ (0 ≤ c.ma ∧ c.ma ≤ 30) ∧ (0 ≤ c.mi ∧ c.mi ≤ c.ma) ∧ (c.mi ≤ c.log ∧ c.log ≤ c.ma) ∧ (1 ≤ c.bk ∧ c.bk ≤ 8) ∧ (1 ≤ c.gr ∧ c.gr ≤ 8) ∧ (1 ≤ c.itv ∧ c.itv ≤ 1073741824) ∧ (0 ≤ c.save ∧ c.save ≤ 1073741824) ∧ c.drop < 2147483648
def right (c : CfgT) : Prop := wok c.w ∧ pr c.w (c.w.length - 1) ≤ 65536 ∧ kindsP c ∧ numsP c ∧ countsP c ∧ ∀ j, j < c.w.length → c.batch * c.w.getD j 0 ≤ 262144
instance (c : CfgT) : Decidable (kindsP c) := inferInstanceAs (Decidable (_ ∧ _))
instance (c : CfgT) : Decidable (numsP c) := inferInstanceAs (Decidable (_ ∧ _))
instance (c : CfgT) : Decidable (countsP c) := inferInstanceAs (Decidable (_ ∧ _))
noncomputable instance (c : CfgT) : Decidable (right c) := Classical.propDecidable _
theorem bif_and {α : Type} {p : Prop} [Decidable p] {q : Prop} [Decidable q] {x : Option Bool} (h : p → x = some (decide q)) (hn : q → p) : (bif decide p then x else some false) = some (decide q) := by
  rw [bif_dec]
  split
  · rename_i hp; exact h hp
  · rename_i hp; exact some_f fun k => hp (hn k)
theorem bif_nand {α : Type} {p : Prop} [Decidable p] {q : Prop} [Decidable q] {x : Option Bool} (h : p → x = some (decide q)) (hn : q → p) : (bif !decide p then some false else x) = some (decide q) := by
  rw [bif_not]; exact bif_and (α := α) h hn
theorem kinds_eq (c : CfgT) : F_914 c = some (decide (kindsP c)) := by
  unfold F_914
  simp only [in_eq, Option.bind_some]
  refine bif_and (α := Int) (fun h1 => bif_and (α := Int) (fun h2 => bif_and (α := Int) (fun h3 => bif_and (α := Int) (fun h4 => some_dec ?_) ?_) ?_) ?_) ?_
  · exact ⟨fun h => ⟨h1, h2, h3, h4, h⟩, fun h => h.2.2.2.2⟩
  all_goals unfold kindsP
  · exact fun h => h.2.2.2.1
  · exact fun h => h.2.2.1
  · exact fun h => h.2.1
  · exact fun h => h.1
theorem counts_eq (c : CfgT) : F_916 c = some (decide (countsP c)) := by
  unfold F_916
  simp only [in_eq, Option.bind_some]
  refine bif_nand (α := Int) (fun h1 => bif_nand (α := Int) (fun h2 => bif_nand (α := Int) (fun h3 => bif_nand (α := Int) (fun h4 => bif_nand (α := Int) (fun h5 => bif_nand (α := Int) (fun h6 => bif_nand (α := Int) (fun h7 => bif_and (α := Int) (fun h8 => bif_and (α := Int) (fun h9 => bif_and (α := Int) (fun h10 => bif_and (α := Int) (fun h11 => some_dec ?_) ?_) ?_) ?_) ?_) ?_) ?_) ?_) ?_) ?_) ?_) ?_
  · exact ⟨fun h => ⟨h1, h2, h3, h4, h5, h6, h7, h8, h9, h10, h11, h⟩, fun h => h.2.2.2.2.2.2.2.2.2.2.2⟩
  all_goals unfold countsP
  · exact fun h => h.2.2.2.2.2.2.2.2.2.2.1
  · exact fun h => h.2.2.2.2.2.2.2.2.2.1
  · exact fun h => h.2.2.2.2.2.2.2.2.1
  · exact fun h => h.2.2.2.2.2.2.2.1
  · exact fun h => h.2.2.2.2.2.2.1
  · exact fun h => h.2.2.2.2.2.1
  · exact fun h => h.2.2.2.2.1
  · exact fun h => h.2.2.2.1
  · exact fun h => h.2.2.1
  · exact fun h => h.2.1
  · exact fun h => h.1
theorem numbers_eq {c : CfgT} (h : cU c) : F_915 c = some (decide (numsP c)) := by
  obtain ⟨u1, u2, u3, u4, u5, u6⟩ := h
  unfold F_915
  simp only [List.getD_cons_zero, List.getD_cons_succ, pos_eq u1.1 u1.2, pos_eq u2.1 u2.2, pos_eq u3.1 u3.2, pos_eq u4.1 u4.2, pos_eq u5.1 u5.2, pos_eq u6.1 u6.2, Option.bind_some]
  refine bif_nand (α := Int) (fun h1 => bif_nand (α := Int) (fun h2 => bif_nand (α := Int) (fun h3 => bif_nand (α := Int) (fun h4 => bif_nand (α := Int) (fun h5 => bif_nand (α := Int) (fun h6 => ?_) ?_) ?_) ?_) ?_) ?_) ?_
  · rw [above_eq (by omega) (by unfold fInf; omega) u2.1 h2, above_eq (by omega) (by unfold fInf; omega) u3.1 h3, above_eq u4.1 h4 (by omega) (by unfold fInf; omega)]
    simp only [Option.bind_some]
    refine bif_and (α := Int) (fun k1 => bif_and (α := Int) (fun k2 => some_dec ?_) ?_) ?_
    · exact ⟨fun k => ⟨h1, k1, k2, ⟨k, h4⟩, h5, h6⟩, fun h => h.2.2.2.1.1⟩
    · exact fun h => h.2.2.1
    · exact fun h => h.2.1
  all_goals unfold numsP fInf
  all_goals omega
theorem bat {w : List Int} {B : Int} (hw : wok w) (hb : 1 ≤ B ∧ B ≤ 256) : (0 ≤ B * mxTo w (w.length - 1) ∧ B * mxTo w (w.length - 1) ≤ 1048576) ∧ (B * mxTo w (w.length - 1) ≤ 262144 ↔ ∀ j, j < w.length → B * w.getD j 0 ≤ 262144) := by
  obtain ⟨l1, l2, hw⟩ := hw
  obtain ⟨j, j1, j2⟩ := mxTo_mem w (w.length - 1)
  have hj := hw j (by omega)
  have m1 := Int.mul_le_mul (a := B) (b := mxTo w (w.length - 1)) (c := 256) (d := 4096) hb.2 (by omega) (by omega) (by omega)
  have m2 : 0 ≤ B * mxTo w (w.length - 1) := Int.mul_nonneg (by omega) (by omega)
  refine ⟨⟨m2, by omega⟩, fun h i hi => ?_, fun h => ?_⟩
  · have := (mxTo_le w (mxTo w (w.length - 1)) (w.length - 1)).1 (Int.le_refl _) i (by omega)
    have := Int.mul_le_mul_of_nonneg_left this (show 0 ≤ B by omega)
    omega
  · rw [j2]; exact h j (by omega)
theorem check_eq {c : CfgT} (h : cU c) : F_99 c = some (if right c then 0 else 24) := by
  unfold F_99
  simp only [List.take_length, eta2]
  rcases params_eq c.1 with ⟨hw, e⟩ | ⟨hw, e⟩
  · rw [e]
    simp only [Option.bind_some, kinds_eq, numbers_eq h, counts_eq, bif_not, bif_dec]
    by_cases h1 : pr c.1 (c.1.length - 1) ≤ 65536
    case neg => rw [if_neg h1, if_neg fun k => h1 k.2.1]
    rw [if_pos h1]
    by_cases h2 : kindsP c
    case neg => rw [if_neg h2, if_neg fun k => h2 k.2.2.1]
    rw [if_pos h2]
    by_cases h3 : numsP c
    case neg => rw [if_neg h3, if_neg fun k => h3 k.2.2.2.1]
    rw [if_pos h3]
    by_cases h4 : countsP c
    case neg => rw [if_neg h4, if_neg fun k => h4 k.2.2.2.2.1]
    rw [if_pos h4, max_eq (by have := hw.1; omega) (by have := hw.2.1; omega)]
    obtain ⟨⟨m1, m2⟩, m3⟩ := bat (B := c.2.2.2.2.2.2.2.2.2.2.2.2.2.2.1) hw h4.2.2.1
    rw [Option.bind_some, wi64 (by omega)]
    by_cases h5 : c.2.2.2.2.2.2.2.2.2.2.2.2.2.2.1 * mxTo c.1 (c.1.length - 1) ≤ 262144
    · rw [if_neg (by omega), if_pos ⟨hw, h1, h2, h3, h4, m3.1 h5⟩]
    · rw [if_pos (by omega), if_neg fun k => h5 (m3.2 k.2.2.2.2.2)]
  · rw [e, if_neg fun k => hw k.1]; rfl
theorem cparams_eq {c : CfgT} (h : cU c) : F_9b c = some (if right c then pr c.w (c.w.length - 1) else 0) := by
  unfold F_9b
  simp only [List.take_length, eta2, check_eq h, Option.bind_some, bif_ne]
  by_cases hr : right c
  · rw [if_pos hr, if_pos hr, if_pos rfl]
    rcases params_eq c.1 with ⟨hw, e⟩ | ⟨hw, e⟩
    · rw [e]; rfl
    · exact absurd hr.1 hw
  · rw [if_neg hr, if_neg hr, if_neg (by decide)]
theorem bif_c {p : Prop} [Decidable p] {q : Prop} [Decidable q] {x : Option Int} (h : p → x = some (if q then 0 else 24)) (hn : q → p) : (bif decide p then x else some 24) = some (if q then (0 : Int) else 24) := by
  rw [bif_dec]
  split
  · rename_i hp; exact h hp
  · rename_i hp; rw [if_neg fun k => hp (hn k)]
theorem bif_nc {p : Prop} [Decidable p] {q : Prop} [Decidable q] {x : Option Int} (h : p → x = some (if q then 0 else 24)) (hn : q → p) : (bif !decide p then some 24 else x) = some (if q then (0 : Int) else 24) := by
  rw [bif_not]; exact bif_c h hn
def wP (c : CfgT) (j : Nat) : Prop := (1 ≤ c.1.getD j 0 ∧ c.1.getD j 0 ≤ 4096) ∧ (1 ≤ c.batch ∧ c.batch ≤ 256) ∧ c.batch * c.1.getD j 0 ≤ 262144
instance (c : CfgT) : DecidablePred (wP c) := fun j => inferInstanceAs (Decidable (_ ∧ _))
theorem mulB {a b : Int} (h : 1 ≤ a ∧ a ≤ 256) (k : 1 ≤ b ∧ b ≤ 4096) : IntKind.i64.wrap (a * b) = a * b := by
  have m1 := Int.mul_le_mul (a := a) (b := b) (c := 256) (d := 4096) h.2 k.2 (by omega) (by omega)
  have m2 : 0 ≤ a * b := Int.mul_nonneg (by omega) (by omega)
  exact wi64 (by omega)
theorem rcheck_step {c : CfgT} (hl : c.1.length ≤ 65) {i : Nat} (hi : i < c.1.length) (h : wP c i) (R : Type) (kn ko) :
    st_9a_0 R (((i : Int), ()), (c, ())) kn ko = kn ((((i + 1 : Nat) : Int), ()), (c, ())) := by
  obtain ⟨h1, h2, h3⟩ := h
  have w1 : IntKind.i64.wrap ((i : Int) + 1) = ((i + 1 : Nat) : Int) := by rw [wi64 (by omega)]; omega
  have w2 := mulB h2 h1
  simp only [CfgT.batch] at h2 h3 w2
  have h3' : ¬ (c.2.2.2.2.2.2.2.2.2.2.2.2.2.2.1 * c.1.getD i 0 > 262144) := by omega
  simp only [st_9a_0, ltI hi, natnn, and_self, decide_true, cond_true, inr_eq, Option.bind_some, List.take_length, Int.toNat_natCast, h1, h2, w2, h3', Bool.not_true, cond_false, decide_false, w1, eta2]
theorem rcheck_bad {c : CfgT} {i : Nat} (hi : i < c.1.length) (h : ¬ wP c i) (R : Type) (kn ko) :
    st_9a_0 R (((i : Int), ()), (c, ())) kn ko = ko (Sum.inr ((24, ()), ())) := by
  simp only [st_9a_0, ltI hi, natnn, and_self, decide_true, cond_true, inr_eq, Option.bind_some, List.take_length, Int.toNat_natCast, bif_not, bif_dec]
  by_cases h1 : 1 ≤ c.1.getD i 0 ∧ c.1.getD i 0 ≤ 4096
  case neg => rw [if_neg h1]
  rw [if_pos h1]
  by_cases h2 : 1 ≤ c.2.2.2.2.2.2.2.2.2.2.2.2.2.2.1 ∧ c.2.2.2.2.2.2.2.2.2.2.2.2.2.2.1 ≤ 256
  case neg => rw [if_neg h2]
  rw [if_pos h2]
  have : ¬ (c.2.2.2.2.2.2.2.2.2.2.2.2.2.2.1 * c.1.getD i 0 ≤ 262144) := fun k => h ⟨h1, h2, k⟩
  exact if_pos (by rw [mulB h2 h1]; omega)
theorem rcheck_eq {c : CfgT} (h : cU c) : F_9a c = some (if right c then 0 else 24) := by
  unfold F_9a
  simp only [List.take_length, eta2, inr_eq, Option.bind_some]
  refine bif_nc (fun h0 => ?_) fun k => ⟨by have := k.1.1; exact Int.ofNat_le.2 this, by have := k.1.2.1; exact Int.ofNat_le.2 this⟩
  rcases least_bad (P := wP c) c.1.length with hp | ⟨k, h1, h2, h3⟩
  · have := lim_seq (st := st_9a_0) (fun i => (((i : Int), ()), (c, ()))) (b := Sum.inl ((), (c, ()))) c.1.length (fun i hi R kn ko => rcheck_step (by omega) hi (hp i hi) R kn ko) (fun R kn ko => by
      simp only [st_9a_0, ltI', decide_false, cond_false, List.take_length, eta2])
    simp only [Int.natCast_zero] at this
    rw [this]
    have hw : wok c.1 := ⟨by omega, by omega, fun j hj => (hp j hj).1⟩
    have hb := (hp 0 (by omega)).2.1
    have hm : ∀ j, j < c.w.length → c.batch * c.w.getD j 0 ≤ 262144 := fun j hj => (hp j hj).2.2
    simp only [Option.bind_some, els]
    obtain ⟨u1, u2, u3, u4, u5, u6⟩ := h
    simp only [List.getD_cons_zero, List.getD_cons_succ, plus_eq u1.1 u1.2, plus_eq u2.1 u2.2, plus_eq u3.1 u3.2, plus_eq u4.1 u4.2, plus_eq u5.1 u5.2, plus_eq u6.1 u6.2, Option.bind_some, rparams_eq hw, inr_eq, List.take_length]
    refine bif_nc (fun q1 => bif_nc (fun q2 => bif_nc (fun q3 => bif_nc (fun q4 => bif_nc (fun q5 => bif_nc (fun q6 => bif_c (fun q7 => ?_) ?_) ?_) ?_) ?_) ?_) ?_) ?_
    · refine bif_c (fun a1 => bif_c (fun a2 => bif_c (fun a3 => bif_c (fun a4 => bif_c (fun a5 => bif_c (fun a6 => bif_c (fun a7 => bif_c (fun a8 => ?_) ?_) ?_) ?_) ?_) ?_) ?_) ?_) ?_
      · refine bif_c (fun b1 => bif_c (fun b2 => bif_c (fun b3 => bif_c (fun b4 => bif_c (fun b5 => bif_c (fun b6 => bif_c (fun b7 => bif_c (fun b8 => bif_c (fun b9 => bif_c (fun b10 => bif_c (fun b11 => bif_nc (fun b12 => ?_) ?_) ?_) ?_) ?_) ?_) ?_) ?_) ?_) ?_) ?_) ?_) ?_
        · rw [if_pos]
          refine ⟨hw, q7, ⟨a1, a2, a3, a4, a5⟩, ⟨q1, a6, a7, ⟨a8, q4⟩, q5, q6⟩, ⟨b1, b2, b3, b4, ⟨?_, b6⟩, ⟨b5, ?_⟩, b7, b8, b9, b10, b11, b12⟩, hm⟩
          · simp only [CfgT.ma] at *; omega
          · simp only [CfgT.ma, CfgT.mi] at *; omega
        · exact fun k => k.2.2.2.2.1.2.2.2.2.2.2.2.2.2.2.2
        · exact fun k => k.2.2.2.2.1.2.2.2.2.2.2.2.2.2.2.1
        · exact fun k => k.2.2.2.2.1.2.2.2.2.2.2.2.2.2.1
        · exact fun k => k.2.2.2.2.1.2.2.2.2.2.2.2.2.1
        · exact fun k => k.2.2.2.2.1.2.2.2.2.2.2.2.1
        · exact fun k => k.2.2.2.2.1.2.2.2.2.2.2.1
        · exact fun k => k.2.2.2.2.1.2.2.2.2.1.2
        · exact fun k => k.2.2.2.2.1.2.2.2.2.2.1.1
        · exact fun k => k.2.2.2.2.1.2.2.2.1
        · exact fun k => k.2.2.2.2.1.2.2.1
        · exact fun k => k.2.2.2.2.1.2.1
        · exact fun k => k.2.2.2.2.1.1
      · exact fun k => k.2.2.2.1.2.2.2.1.1
      · exact fun k => k.2.2.2.1.2.2.1
      · exact fun k => k.2.2.2.1.2.1
      · exact fun k => k.2.2.1.2.2.2.2
      · exact fun k => k.2.2.1.2.2.2.1
      · exact fun k => k.2.2.1.2.2.1
      · exact fun k => k.2.2.1.2.1
      · exact fun k => k.2.2.1.1
    · exact fun k => k.2.1
    · exact fun k => k.2.2.2.1.2.2.2.2.2
    · exact fun k => k.2.2.2.1.2.2.2.2.1
    · exact fun k => k.2.2.2.1.2.2.2.1.2
    · exact fun k => Int.lt_trans k.2.2.2.1.2.2.1 (by decide)
    · exact fun k => Int.lt_trans k.2.2.2.1.2.1 (by decide)
    · exact fun k => k.2.2.2.1.1
  · have := lim_seq (st := st_9a_0) (fun i => (((i : Int), ()), (c, ()))) (b := Sum.inr ((24, ()), ())) k (fun i hi R kn ko => rcheck_step (by omega) (by omega) (h3 i hi) R kn ko) (fun R kn ko => rcheck_bad h1 h2 R kn ko)
    simp only [Int.natCast_zero] at this
    rw [this, if_neg]
    · rfl
    · intro hr
      exact h2 ⟨hr.1.2.2 k h1, hr.2.2.2.2.1.2.2.1, hr.2.2.2.2.2 k h1⟩
theorem rcparams_eq {c : CfgT} (h : cU c) : F_9c c = some (if right c then pr c.w (c.w.length - 1) else 0) := by
  unfold F_9c
  simp only [List.take_length, eta2, rcheck_eq h, Option.bind_some, bif_ne]
  by_cases hr : right c
  · rw [if_pos hr, if_pos hr, if_pos rfl, rparams_eq hr.1]; rfl
  · rw [if_neg hr, if_neg hr, if_neg (by decide)]
noncomputable def O_97 : Orc := (orm c_99 (orm c_910 c_911))
theorem okO_97 : OrcOk PR O_97 := (orm_ok ok_99 (orm_ok ok_910 ok_911))
abbrev fa_97 : Fm := (.pair (.agg (.pair (.si .i64) (.pair (.i .i64) (.pair (.i .i64) (.pair (.i .i64) (.pair (.i .i64) (.pair (.i .i64) (.pair (.i .u32) (.pair (.i .u32) (.pair (.i .u32) (.pair (.i .u32) (.pair (.i .u32) (.pair (.i .u32) (.pair (.i .i64) (.pair (.i .i64) (.pair (.i .i64) (.pair (.i .i64) (.pair (.i .u64) (.pair (.i .u32) (.pair .b (.pair (.i .i64) (.pair (.i .i64) (.pair (.i .i64) (.pair (.i .i64) (.pair (.i .i64) (.pair (.i .i64) (.pair (.i .i64) .unit))))))))))))))))))))))))))) .unit)
abbrev fr_97 : Fm := (.tup (.pair (.si .u8) (.pair (.i .i64) .unit)))
abbrev ff_97_0 : Fm := (.us 1 (.cst (.ref 0 1 0) (.us 3 (.pair (.own 1 1 0 1) (.us 22 (.pair (.si .i64) (.pair (.i .i64) (.pair (.i .i64) (.us 105 .unit)))))))))
abbrev hf_97_0 : List BF := [(.list 1 y_92 true (.pair (.si .i64) (.pair (.i .i64) (.pair (.i .i64) (.pair (.i .i64) (.pair (.i .i64) (.pair (.i .i64) (.pair (.i .u32) (.pair (.i .u32) (.pair (.i .u32) (.pair (.i .u32) (.pair (.i .u32) (.pair (.i .u32) (.pair (.i .i64) (.pair (.i .i64) (.pair (.i .i64) (.pair (.i .i64) (.pair (.i .u64) (.pair (.i .u32) (.pair .b (.pair (.i .i64) (.pair (.i .i64) (.pair (.i .i64) (.pair (.i .i64) (.pair (.i .i64) (.pair (.i .i64) (.pair (.i .i64) .unit))))))))))))))))))))))))))), (.ints 1 y_91 true .u8)]
abbrev X_97_0 : Xs := (.one (.exit 0) [1, 5] (.us 1 (.cst (.ref 0 1 0) (.us 3 (.pair (.own 1 1 0 1) (.us 130 .unit))))) [(.list 1 y_92 true (.pair (.si .i64) (.pair (.i .i64) (.pair (.i .i64) (.pair (.i .i64) (.pair (.i .i64) (.pair (.i .i64) (.pair (.i .u32) (.pair (.i .u32) (.pair (.i .u32) (.pair (.i .u32) (.pair (.i .u32) (.pair (.i .u32) (.pair (.i .i64) (.pair (.i .i64) (.pair (.i .i64) (.pair (.i .i64) (.pair (.i .u64) (.pair (.i .u32) (.pair .b (.pair (.i .i64) (.pair (.i .i64) (.pair (.i .i64) (.pair (.i .i64) (.pair (.i .i64) (.pair (.i .i64) (.pair (.i .i64) .unit))))))))))))))))))))))))))), (.ints 1 y_91 true .u8)])
abbrev S_97_0 : Type := T ff_97_0 × TH hf_97_0
abbrev E_97_0 : Type := TX X_97_0
noncomputable def LB_97_0 : Lps := L0
noncomputable def st_97_0 : StepT S_97_0 E_97_0 := fun R v kn ko =>
 let x0 : Nat := v.1.1
 let x1 : List Int := v.1.2.1
 let x2 : Int := v.1.2.2.2.1
 let x3 : List Int := v.2.1.1
 bif (decide (x2 < v.1.2.2.1)) then
 bif (decide (((0:Int) ≤ x2) ∧ (x2 < (((List.length x1) : Nat) : Int)))) then
 ((F_910 x0 (IntKind.wrap .u64 (List.getD x1 (Int.toNat x2) (0:Int))) (2:Int) v.2.2.1)).bind fun r4 =>
 (kn ((r4.1, ((List.take (List.length x1) x1), (v.1.2.2.1, ((IntKind.wrap .i64 (x2 + (1:Int))), ())))), (((List.take (List.length x3) x3), v.2.1.2), r4.2)))
 else
 none
 else
 (ko ((x0, ()), (((List.take (List.length x3) x3), v.2.1.2), v.2.2)))
noncomputable def ls_97_0 : St → LTr := (lsum ff_97_0 hf_97_0 X_97_0 Prod.mk id st_97_0 (hd [] [] [1, 5, 28, 29, 30] 0))
theorem lp_97_0 : LoopOk PR 0 (lpN f_97 0) ls_97_0 := loopT okO_97 mixed (L := LB_97_0) (d := 1) (bs := []) (ks := [1, 5, 28, 29, 30]) (loopsL (l := []) (by kernel_rfl) trivial) (by kernel_rfl) (inS := Prod.mk) (outS := id) (fun _ _ => rfl) (inX := id) (outX := id) (fun _ => rfl) (fun v R kn ko => by kernel_rfl) (hd_wk [] [] [1, 5, 28, 29, 30] 0)
noncomputable def L_97 : Lps := (lpB 23 (.un 6 [1, 5, 120, 121, 122]) (lpB 17 (.un 12 [1, 5, 90, 91, 92]) (lpB 12 (.un 7 [1, 5, 52, 53, 54]) (lpB 7 (.by_ ls_97_0) L0))))
noncomputable def F_97 (a0 : List Int × Int × Int × Int × Int × Int × Int × Int × Int × Int × Int × Int × Int × Int × Int × Int × Int × Int × Bool × Int × Int × Int × Int × Int × Int × Int × Unit) : Option (List Int × Int × Unit) :=
 let x0 : List Int := (List.take (List.length a0.1) a0.1)
 let x1 : Int := (((List.length a0.1) : Nat) : Int)
 ((F_99 (x0, a0.2))).bind fun r2 =>
 bif (r2 != (0:Int)) then
 (some ([], (r2, ())))
 else
 ((lim st_97_0 (((9:Nat), (x0, (x1, ((0:Int), ())))), ((x0, a0.2), ([(65:Int), (78:Int), (78:Int), (69:Int), (65:Int), (76:Int), (49:Int), (0:Int), (IntKind.wrap .u8 x1)], ()))))).bind fun r3 =>
 let x4 : Nat := r3.1.1
 let x5 : Nat := (x4 + (1:Nat))
 let x6 : Nat := (x5 + (1:Nat))
 let x7 : Nat := (x6 + (1:Nat))
 let x8 : Nat := (x7 + (1:Nat))
 let x9 : Nat := (x8 + (1:Nat))
 let x10 : List Int := [r3.2.1.2.2.2.2.2.2.1, r3.2.1.2.2.2.2.2.2.2.1, r3.2.1.2.2.2.2.2.2.2.2.1, r3.2.1.2.2.2.2.2.2.2.2.2.1, r3.2.1.2.2.2.2.2.2.2.2.2.2.1, r3.2.1.2.2.2.2.2.2.2.2.2.2.2.1, r3.2.1.2.2.2.2.2.2.2.2.2.2.2.2.2.2.2.2.2.1, (IntKind.wrap .u32 r3.2.1.2.2.2.2.2.2.2.2.2.2.2.2.1), (IntKind.wrap .u32 r3.2.1.2.2.2.2.2.2.2.2.2.2.2.2.2.1), (IntKind.wrap .u32 r3.2.1.2.2.2.2.2.2.2.2.2.2.2.2.2.2.2.2.2.2.2.2.2.2.2.2.1), (IntKind.wrap .u32 r3.2.1.2.2.2.2.2.2.2.2.2.2.2.2.2.2.2.2.2.2.2.2.2.2.2.2.2.1)]
 let x11 : List Int := [r3.2.1.2.2.2.2.2.2.2.2.2.2.2.2.2.2.2.2.2.2.2.1, r3.2.1.2.2.2.2.2.2.2.2.2.2.2.2.2.2.2.2.2.2.2.2.1, r3.2.1.2.2.2.2.2.2.2.2.2.2.2.2.2.2.2.2.2.2.2.2.2.1, r3.2.1.2.2.2.2.2.2.2.2.2.2.2.2.2.2.2.2.2.2.2.2.2.2.1, r3.2.1.2.2.2.2.2.2.2.2.2.2.2.2.2.2.2.2.2.2.2.2.2.2.2.1]
 ((F_911 r3.2.1.2.2.2.2.2.2.2.2.2.2.2.2.2.2.2.2.2.2.1)).bind fun r12 =>
 let x13 : List Int := [r3.2.1.2.1, r3.2.1.2.2.1, r3.2.1.2.2.2.1, r3.2.1.2.2.2.2.1, r3.2.1.2.2.2.2.2.1, r12]
 bif (decide (x5 ≤ (1073741824:Nat))) then
 bif (decide (x6 ≤ (1073741824:Nat))) then
 bif (decide (x7 ≤ (1073741824:Nat))) then
 bif (decide (x8 ≤ (1073741824:Nat))) then
 bif (decide (x9 ≤ (1073741824:Nat))) then
 bif (decide ((x9 + (1:Nat)) ≤ (1073741824:Nat))) then
 ((F_910 (x9 + (1:Nat)) (IntKind.wrap .u64 (List.getD x10 (0:Nat) (0:Int))) (4:Int) ((List.take x9 ((List.take x8 ((List.take x7 ((List.take x6 ((List.take x5 ((List.take x4 r3.2.2.1) ++ [(IntKind.wrap .u8 (List.getD x13 (0:Nat) (0:Int)))])) ++ [(IntKind.wrap .u8 (List.getD x13 (1:Nat) (0:Int)))])) ++ [(IntKind.wrap .u8 (List.getD x13 (2:Nat) (0:Int)))])) ++ [(IntKind.wrap .u8 (List.getD x13 (3:Nat) (0:Int)))])) ++ [(IntKind.wrap .u8 (List.getD x13 (4:Nat) (0:Int)))])) ++ [(IntKind.wrap .u8 (List.getD x13 (5:Nat) (0:Int)))]))).bind fun r14 =>
 ((F_910 r14.1 (IntKind.wrap .u64 (List.getD x10 (1:Nat) (0:Int))) (4:Int) r14.2.1)).bind fun r15 =>
 ((F_910 r15.1 (IntKind.wrap .u64 (List.getD x10 (2:Nat) (0:Int))) (4:Int) r15.2.1)).bind fun r16 =>
 ((F_910 r16.1 (IntKind.wrap .u64 (List.getD x10 (3:Nat) (0:Int))) (4:Int) r16.2.1)).bind fun r17 =>
 ((F_910 r17.1 (IntKind.wrap .u64 (List.getD x10 (4:Nat) (0:Int))) (4:Int) r17.2.1)).bind fun r18 =>
 ((F_910 r18.1 (IntKind.wrap .u64 (List.getD x10 (5:Nat) (0:Int))) (4:Int) r18.2.1)).bind fun r19 =>
 ((F_910 r19.1 (IntKind.wrap .u64 (List.getD x10 (6:Nat) (0:Int))) (4:Int) r19.2.1)).bind fun r20 =>
 ((F_910 r20.1 (IntKind.wrap .u64 (List.getD x10 (7:Nat) (0:Int))) (4:Int) r20.2.1)).bind fun r21 =>
 ((F_910 r21.1 (IntKind.wrap .u64 (List.getD x10 (8:Nat) (0:Int))) (4:Int) r21.2.1)).bind fun r22 =>
 ((F_910 r22.1 (IntKind.wrap .u64 (List.getD x10 (9:Nat) (0:Int))) (4:Int) r22.2.1)).bind fun r23 =>
 ((F_910 r23.1 (IntKind.wrap .u64 (List.getD x10 (10:Nat) (0:Int))) (4:Int) r23.2.1)).bind fun r24 =>
 ((F_910 r24.1 (IntKind.wrap .u64 r3.2.1.2.2.2.2.2.2.2.2.2.2.2.2.2.2.1) (2:Int) r24.2.1)).bind fun r25 =>
 ((F_910 r25.1 (IntKind.wrap .u64 r3.2.1.2.2.2.2.2.2.2.2.2.2.2.2.2.2.2.1) (2:Int) r25.2.1)).bind fun r26 =>
 let x27 : Nat := (r26.1 + (1:Nat))
 let x28 : Nat := (x27 + (1:Nat))
 let x29 : Nat := (x28 + (1:Nat))
 let x30 : Nat := (x29 + (1:Nat))
 bif (decide (x27 ≤ (1073741824:Nat))) then
 bif (decide (x28 ≤ (1073741824:Nat))) then
 bif (decide (x29 ≤ (1073741824:Nat))) then
 bif (decide (x30 ≤ (1073741824:Nat))) then
 bif (decide ((x30 + (1:Nat)) ≤ (1073741824:Nat))) then
 ((F_910 (x30 + (1:Nat)) r3.2.1.2.2.2.2.2.2.2.2.2.2.2.2.2.2.2.2.1 (8:Int) ((List.take x30 ((List.take x29 ((List.take x28 ((List.take x27 ((List.take r26.1 r26.2.1) ++ [(IntKind.wrap .u8 (List.getD x11 (0:Nat) (0:Int)))])) ++ [(IntKind.wrap .u8 (List.getD x11 (1:Nat) (0:Int)))])) ++ [(IntKind.wrap .u8 (List.getD x11 (2:Nat) (0:Int)))])) ++ [(IntKind.wrap .u8 (List.getD x11 (3:Nat) (0:Int)))])) ++ [(IntKind.wrap .u8 (List.getD x11 (4:Nat) (0:Int)))]))).bind fun r31 =>
 (some ((List.take r31.1 (List.drop (0:Nat) r31.2.1)), ((0:Int), ())))
 else
 none
 else
 none
 else
 none
 else
 none
 else
 none
 else
 none
 else
 none
 else
 none
 else
 none
 else
 none
 else
 none
noncomputable def G_97 : T fa_97 → TH hN0 → Option (List Int × Int × Unit) := fun x y => F_97 x.1
noncomputable def c_97 : Orc := ent i_97 [] 0 (sp fa_97 hN0 fr_97 hN0 G_97 (outN fr_97))
theorem ok_97 : OrcOk PR c_97 := fnT okO_97 mixed p_97 (by kernel_rfl) (by kernel_rfl) (L := L_97) (kp := false) (by kernel_rfl) (inn := (innN fr_97)) (out := (outN fr_97)) (fun _ _ => rfl) (loopsL (l := [((lpN f_97 0), ls_97_0)]) (by kernel_rfl) ⟨lp_97_0, trivial⟩) (fun x y => by kernel_rfl)
noncomputable def O_98 : Orc := (orm c_9a c_912)
theorem okO_98 : OrcOk PR O_98 := (orm_ok ok_9a ok_912)
abbrev fa_98 : Fm := (.pair (.agg (.pair (.si .i64) (.pair (.i .i64) (.pair (.i .i64) (.pair (.i .i64) (.pair (.i .i64) (.pair (.i .i64) (.pair (.i .u32) (.pair (.i .u32) (.pair (.i .u32) (.pair (.i .u32) (.pair (.i .u32) (.pair (.i .u32) (.pair (.i .i64) (.pair (.i .i64) (.pair (.i .i64) (.pair (.i .i64) (.pair (.i .u64) (.pair (.i .u32) (.pair .b (.pair (.i .i64) (.pair (.i .i64) (.pair (.i .i64) (.pair (.i .i64) (.pair (.i .i64) (.pair (.i .i64) (.pair (.i .i64) .unit))))))))))))))))))))))))))) .unit)
abbrev fr_98 : Fm := (.tup (.pair (.si .u8) (.pair (.i .i64) .unit)))
abbrev ff_98_0 : Fm := (.us 1 (.cst (.ref 0 1 0) (.us 3 (.pair (.own 1 1 0 1) (.pair (.i .i64) (.us 123 .unit))))))
abbrev hf_98_0 : List BF := [(.list 1 y_92 true (.pair (.si .i64) (.pair (.i .i64) (.pair (.i .i64) (.pair (.i .i64) (.pair (.i .i64) (.pair (.i .i64) (.pair (.i .u32) (.pair (.i .u32) (.pair (.i .u32) (.pair (.i .u32) (.pair (.i .u32) (.pair (.i .u32) (.pair (.i .i64) (.pair (.i .i64) (.pair (.i .i64) (.pair (.i .i64) (.pair (.i .u64) (.pair (.i .u32) (.pair .b (.pair (.i .i64) (.pair (.i .i64) (.pair (.i .i64) (.pair (.i .i64) (.pair (.i .i64) (.pair (.i .i64) (.pair (.i .i64) .unit))))))))))))))))))))))))))), (.ints 1 y_91 true .u8)]
abbrev X_98_0 : Xs := (.one (.exit 0) [1, 5] (.us 1 (.cst (.ref 0 1 0) (.us 3 (.pair (.own 1 1 0 1) (.us 124 .unit))))) [(.list 1 y_92 true (.pair (.si .i64) (.pair (.i .i64) (.pair (.i .i64) (.pair (.i .i64) (.pair (.i .i64) (.pair (.i .i64) (.pair (.i .u32) (.pair (.i .u32) (.pair (.i .u32) (.pair (.i .u32) (.pair (.i .u32) (.pair (.i .u32) (.pair (.i .i64) (.pair (.i .i64) (.pair (.i .i64) (.pair (.i .i64) (.pair (.i .u64) (.pair (.i .u32) (.pair .b (.pair (.i .i64) (.pair (.i .i64) (.pair (.i .i64) (.pair (.i .i64) (.pair (.i .i64) (.pair (.i .i64) (.pair (.i .i64) .unit))))))))))))))))))))))))))), (.ints 1 y_91 true .u8)])
abbrev S_98_0 : Type := T ff_98_0 × TH hf_98_0
abbrev E_98_0 : Type := TX X_98_0
noncomputable def LB_98_0 : Lps := L0
noncomputable def st_98_0 : StepT S_98_0 E_98_0 := fun R v kn ko =>
 let x0 : Nat := v.1.1
 let x1 : List Int := v.2.1.1
 let x2 : Int := v.1.2.1
 bif (decide (x2 < (((List.length x1) : Nat) : Int))) then
 bif (decide (((0:Int) ≤ x2) ∧ (x2 < (((List.length x1) : Nat) : Int)))) then
 ((F_912 x0 (IntKind.wrap .u64 (List.getD x1 (Int.toNat x2) (0:Int))) (2:Int) v.2.2.1)).bind fun r3 =>
 (kn ((r3.1, ((IntKind.wrap .i64 (x2 + (1:Int))), ())), (((List.take (List.length x1) x1), v.2.1.2), r3.2)))
 else
 none
 else
 (ko ((x0, ()), (((List.take (List.length x1) x1), v.2.1.2), v.2.2)))
noncomputable def ls_98_0 : St → LTr := (lsum ff_98_0 hf_98_0 X_98_0 Prod.mk id st_98_0 (hd [] [] [1, 5, 6] 0))
theorem lp_98_0 : LoopOk PR 0 (lpN f_98 0) ls_98_0 := loopT okO_98 mixed (L := LB_98_0) (d := 1) (bs := []) (ks := [1, 5, 6]) (loopsL (l := []) (by kernel_rfl) trivial) (by kernel_rfl) (inS := Prod.mk) (outS := id) (fun _ _ => rfl) (inX := id) (outX := id) (fun _ => rfl) (fun v R kn ko => by kernel_rfl) (hd_wk [] [] [1, 5, 6] 0)
noncomputable def L_98 : Lps := (lpB 16 (.un 12 [1, 5, 8, 9]) (lpB 7 (.by_ ls_98_0) L0))
noncomputable def F_98 (a0 : List Int × Int × Int × Int × Int × Int × Int × Int × Int × Int × Int × Int × Int × Int × Int × Int × Int × Int × Bool × Int × Int × Int × Int × Int × Int × Int × Unit) : Option (List Int × Int × Unit) :=
 ((F_9a ((List.take (List.length a0.1) a0.1), a0.2))).bind fun r0 =>
 bif (r0 != (0:Int)) then
 (some ([], (r0, ())))
 else
 ((lim st_98_0 (((9:Nat), ((0:Int), ())), (((List.take (List.length a0.1) a0.1), a0.2), ([(65:Int), (78:Int), (78:Int), (69:Int), (65:Int), (76:Int), (49:Int), (0:Int), (IntKind.wrap .u8 (((List.length a0.1) : Nat) : Int))], ()))))).bind fun r1 =>
 let x2 : Nat := r1.1.1
 let x3 : List Int := [r1.2.1.2.2.2.2.2.2.1, r1.2.1.2.2.2.2.2.2.2.1, r1.2.1.2.2.2.2.2.2.2.2.1, r1.2.1.2.2.2.2.2.2.2.2.2.1, r1.2.1.2.2.2.2.2.2.2.2.2.2.1, r1.2.1.2.2.2.2.2.2.2.2.2.2.2.1, r1.2.1.2.2.2.2.2.2.2.2.2.2.2.2.2.2.2.2.2.1, (IntKind.wrap .u32 r1.2.1.2.2.2.2.2.2.2.2.2.2.2.2.1), (IntKind.wrap .u32 r1.2.1.2.2.2.2.2.2.2.2.2.2.2.2.2.1), (IntKind.wrap .u32 r1.2.1.2.2.2.2.2.2.2.2.2.2.2.2.2.2.2.2.2.2.2.2.2.2.2.2.1), (IntKind.wrap .u32 r1.2.1.2.2.2.2.2.2.2.2.2.2.2.2.2.2.2.2.2.2.2.2.2.2.2.2.2.1)]
 bif (decide ((x2 + (6:Nat)) ≤ (1073741824:Nat))) then
 ((F_912 (x2 + (6:Nat)) (IntKind.wrap .u64 (List.getD x3 (0:Nat) (0:Int))) (4:Int) ((List.take x2 r1.2.2.1) ++ [(IntKind.wrap .u8 r1.2.1.2.1), (IntKind.wrap .u8 r1.2.1.2.2.1), (IntKind.wrap .u8 r1.2.1.2.2.2.1), (IntKind.wrap .u8 r1.2.1.2.2.2.2.1), (IntKind.wrap .u8 r1.2.1.2.2.2.2.2.1), (bif r1.2.1.2.2.2.2.2.2.2.2.2.2.2.2.2.2.2.2.2.2.1 then (1:Int) else (0:Int))]))).bind fun r4 =>
 ((F_912 r4.1 (IntKind.wrap .u64 (List.getD x3 (1:Nat) (0:Int))) (4:Int) r4.2.1)).bind fun r5 =>
 ((F_912 r5.1 (IntKind.wrap .u64 (List.getD x3 (2:Nat) (0:Int))) (4:Int) r5.2.1)).bind fun r6 =>
 ((F_912 r6.1 (IntKind.wrap .u64 (List.getD x3 (3:Nat) (0:Int))) (4:Int) r6.2.1)).bind fun r7 =>
 ((F_912 r7.1 (IntKind.wrap .u64 (List.getD x3 (4:Nat) (0:Int))) (4:Int) r7.2.1)).bind fun r8 =>
 ((F_912 r8.1 (IntKind.wrap .u64 (List.getD x3 (5:Nat) (0:Int))) (4:Int) r8.2.1)).bind fun r9 =>
 ((F_912 r9.1 (IntKind.wrap .u64 (List.getD x3 (6:Nat) (0:Int))) (4:Int) r9.2.1)).bind fun r10 =>
 ((F_912 r10.1 (IntKind.wrap .u64 (List.getD x3 (7:Nat) (0:Int))) (4:Int) r10.2.1)).bind fun r11 =>
 ((F_912 r11.1 (IntKind.wrap .u64 (List.getD x3 (8:Nat) (0:Int))) (4:Int) r11.2.1)).bind fun r12 =>
 ((F_912 r12.1 (IntKind.wrap .u64 (List.getD x3 (9:Nat) (0:Int))) (4:Int) r12.2.1)).bind fun r13 =>
 ((F_912 r13.1 (IntKind.wrap .u64 (List.getD x3 (10:Nat) (0:Int))) (4:Int) r13.2.1)).bind fun r14 =>
 ((F_912 r14.1 (IntKind.wrap .u64 r1.2.1.2.2.2.2.2.2.2.2.2.2.2.2.2.2.1) (2:Int) r14.2.1)).bind fun r15 =>
 ((F_912 r15.1 (IntKind.wrap .u64 r1.2.1.2.2.2.2.2.2.2.2.2.2.2.2.2.2.2.1) (2:Int) r15.2.1)).bind fun r16 =>
 bif (decide ((r16.1 + (5:Nat)) ≤ (1073741824:Nat))) then
 ((F_912 (r16.1 + (5:Nat)) r1.2.1.2.2.2.2.2.2.2.2.2.2.2.2.2.2.2.2.1 (8:Int) ((List.take r16.1 r16.2.1) ++ [(IntKind.wrap .u8 r1.2.1.2.2.2.2.2.2.2.2.2.2.2.2.2.2.2.2.2.2.2.1), (IntKind.wrap .u8 r1.2.1.2.2.2.2.2.2.2.2.2.2.2.2.2.2.2.2.2.2.2.2.1), (IntKind.wrap .u8 r1.2.1.2.2.2.2.2.2.2.2.2.2.2.2.2.2.2.2.2.2.2.2.2.1), (IntKind.wrap .u8 r1.2.1.2.2.2.2.2.2.2.2.2.2.2.2.2.2.2.2.2.2.2.2.2.2.1), (IntKind.wrap .u8 r1.2.1.2.2.2.2.2.2.2.2.2.2.2.2.2.2.2.2.2.2.2.2.2.2.2.1)]))).bind fun r17 =>
 (some ((List.take r17.1 (List.drop (0:Nat) r17.2.1)), ((0:Int), ())))
 else
 none
 else
 none
noncomputable def G_98 : T fa_98 → TH hN0 → Option (List Int × Int × Unit) := fun x y => F_98 x.1
noncomputable def c_98 : Orc := ent i_98 [] 0 (sp fa_98 hN0 fr_98 hN0 G_98 (outN fr_98))
theorem ok_98 : OrcOk PR c_98 := fnT okO_98 mixed p_98 (by kernel_rfl) (by kernel_rfl) (L := L_98) (kp := false) (by kernel_rfl) (inn := (innN fr_98)) (out := (outN fr_98)) (fun _ _ => rfl) (loopsL (l := [((lpN f_98 0), ls_98_0)]) (by kernel_rfl) ⟨lp_98_0, trivial⟩) (fun x y => by kernel_rfl)
def bts (k : Nat) (v : Int) : List Int := (List.range k).map fun i => v / 2 ^ (8 * i) % 256
theorem bts_succ (k : Nat) (v : Int) : bts (k + 1) v = bts k v ++ [v / 2 ^ (8 * k) % 256] := by
  simp [bts, List.range_succ]
theorem bts_len (k : Nat) (v : Int) : (bts k v).length = k := by simp [bts]
theorem lay_eq {xs : List Int} {n k : Nat} {v : Int} (hn : xs.length = n) (hk : k ≤ 8) (hl : n + k ≤ 1073741824) : F_910 n v (k : Int) xs = some (n + k, (xs ++ bts k v, ())) := by
  unfold F_910
  have := lim_seq (st := st_910_0) (fun i => ((n + i, v, (k : Int), (i : Int), ()), (xs ++ bts i v, ()))) (b := ((n + k, ()), (xs ++ bts k v, ()))) k (fun i hi R kn ko => by
    have w1 : IntKind.i64.wrap ((i : Int) + 1) = ((i + 1 : Nat) : Int) := by rw [wi64 (by omega)]; omega
    have w2 : IntKind.i64.wrap (8 * (i : Int)) = ((8 * i : Nat) : Int) := by rw [wi64 (by omega)]; omega
    have w3 : IntKind.u64.wrap ((8 * i : Nat) : Int) = ((8 * i : Nat) : Int) := wu64 (by omega)
    have hb : (n + i + 1 ≤ 1073741824) = True := by simp; omega
    have ht : (xs ++ bts i v).take (n + i) = xs ++ bts i v := List.take_of_length_le (by simp [bts_len, hn])
    have hm : Min.min (8 * i) 64 = 8 * i := by omega
    simp only [st_910_0, ltI hi, w1, w2, w3, natnn, hb, decide_true, cond_true, Int.toNat_natCast, ht, hm, wu8_eq, bts_succ, List.append_assoc]
    rfl) (fun R kn ko => by
    simp only [st_910_0, ltI', decide_false, cond_false])
  simp only [Int.natCast_zero, Nat.add_zero] at this
  have e0 : xs ++ bts 0 v = xs := by simp [bts]
  rw [e0] at this
  rw [this]; rfl
theorem put_eq {xs : List Int} {n k : Nat} {v : Int} (hn : xs.length = n) (hk : k ≤ 8) (hl : n + k ≤ 1073741824) : F_912 n v (k : Int) xs = some (n + k, (xs ++ bts k v, ())) := by
  unfold F_912
  have := lim_seq (st := st_912_0) (fun i => ((n + i, v, (k : Int), (i : Int), ()), (xs ++ bts i v, ()))) (b := ((n + k, ()), (xs ++ bts k v, ()))) k (fun i hi R kn ko => by
    have w1 : IntKind.i64.wrap ((i : Int) + 1) = ((i + 1 : Nat) : Int) := by rw [wi64 (by omega)]; omega
    have w2 : IntKind.i64.wrap (8 * (i : Int)) = ((8 * i : Nat) : Int) := by rw [wi64 (by omega)]; omega
    have hb : (n + i + 1 ≤ 1073741824) = True := by simp; omega
    have ht : (xs ++ bts i v).take (n + i) = xs ++ bts i v := List.take_of_length_le (by simp [bts_len, hn])
    have hm : Min.min (8 * i) 64 = 8 * i := by omega
    simp only [st_912_0, ltI hi, w1, w2, natnn, hb, decide_true, cond_true, Int.toNat_natCast, ht, hm, wu8_eq, bts_succ, List.append_assoc]
    rfl) (fun R kn ko => by
    simp only [st_912_0, ltI', decide_false, cond_false])
  simp only [Int.natCast_zero, Nat.add_zero] at this
  have e0 : xs ++ bts 0 v = xs := by simp [bts]
  rw [e0] at this
  rw [this]; rfl
def wbs (w : List Int) : Nat → List Int
  | 0 => []
  | i + 1 => wbs w i ++ bts 2 (w.getD i 0)
theorem wbs_len (w : List Int) : ∀ i, (wbs w i).length = 2 * i
  | 0 => rfl
  | i + 1 => by simp [wbs, wbs_len w i, bts_len]; omega
def head (c : CfgT) : List Int := [65, 78, 78, 69, 65, 76, 49, 0, (c.w.length : Int)]
def flagN (b : Bool) : Int := bif b then 1 else 0
def tail (c : CfgT) : List Int :=
  [c.f, c.act, c.loss, c.opt, c.sched, flagN c.chance] ++ (bts 4 c.rate ++ (bts 4 c.mu ++ (bts 4 c.beta ++ (bts 4 c.eps ++ (bts 4 c.decay ++ (bts 4 c.clip ++ (bts 4 c.drop ++ (bts 4 c.warm ++ (bts 4 c.total ++ (bts 4 c.itv ++ (bts 4 c.save ++ (bts 2 c.batch ++ (bts 2 c.accum ++ ([c.log, c.mi, c.ma, c.bk, c.gr] ++ bts 8 c.seed))))))))))))))
def enc_ (c : CfgT) : List Int := head c ++ (wbs c.w c.w.length ++ tail c)
theorem enc_len (c : CfgT) : (enc_ c).length = 76 + 2 * c.w.length := by
  simp [enc_, head, tail, wbs_len, bts_len]; omega
theorem lay_b {α : Type} {xs : List Int} {n k : Nat} {v : Int} {K : Nat × List Int × Unit → Option α} (hk : k ≤ 8) (hn : xs.length = n) (hl : n ≤ 1000000) : (F_910 n v (k : Int) xs).bind K = K (n + k, (xs ++ bts k v, ())) := by
  rw [lay_eq hn hk (by omega)]; rfl
theorem put_b {α : Type} {xs : List Int} {n k : Nat} {v : Int} {K : Nat × List Int × Unit → Option α} (hk : k ≤ 8) (hn : xs.length = n) (hl : n ≤ 1000000) : (F_912 n v (k : Int) xs).bind K = K (n + k, (xs ++ bts k v, ())) := by
  rw [put_eq hn hk (by omega)]; rfl
theorem lay2 {α : Type} {xs : List Int} {n : Nat} {v : Int} {K : Nat × List Int × Unit → Option α} (hn : xs.length = n) (hl : n ≤ 1000000) : (F_910 n v 2 xs).bind K = K (n + 2, (xs ++ bts 2 v, ())) := lay_b (k := 2) (by omega) hn hl
theorem lay4 {α : Type} {xs : List Int} {n : Nat} {v : Int} {K : Nat × List Int × Unit → Option α} (hn : xs.length = n) (hl : n ≤ 1000000) : (F_910 n v 4 xs).bind K = K (n + 4, (xs ++ bts 4 v, ())) := lay_b (k := 4) (by omega) hn hl
theorem lay8 {α : Type} {xs : List Int} {n : Nat} {v : Int} {K : Nat × List Int × Unit → Option α} (hn : xs.length = n) (hl : n ≤ 1000000) : (F_910 n v 8 xs).bind K = K (n + 8, (xs ++ bts 8 v, ())) := lay_b (k := 8) (by omega) hn hl
theorem put2 {α : Type} {xs : List Int} {n : Nat} {v : Int} {K : Nat × List Int × Unit → Option α} (hn : xs.length = n) (hl : n ≤ 1000000) : (F_912 n v 2 xs).bind K = K (n + 2, (xs ++ bts 2 v, ())) := put_b (k := 2) (by omega) hn hl
theorem put4 {α : Type} {xs : List Int} {n : Nat} {v : Int} {K : Nat × List Int × Unit → Option α} (hn : xs.length = n) (hl : n ≤ 1000000) : (F_912 n v 4 xs).bind K = K (n + 4, (xs ++ bts 4 v, ())) := put_b (k := 4) (by omega) hn hl
theorem put8 {α : Type} {xs : List Int} {n : Nat} {v : Int} {K : Nat × List Int × Unit → Option α} (hn : xs.length = n) (hl : n ≤ 1000000) : (F_912 n v 8 xs).bind K = K (n + 8, (xs ++ bts 8 v, ())) := put_b (k := 8) (by omega) hn hl
theorem tk {xs : List Int} {n : Nat} (h : xs.length = n) : List.take n xs = xs := List.take_of_length_le (by omega)
theorem cput_eq {c : CfgT} (h : cU c) (hsd : (0 ≤ c.seed ∧ c.seed < 18446744073709551616) ∧ 0 ≤ c.drop) : F_97 c = some (if right c then (enc_ c, 0, ()) else ([], 24, ())) := by
  unfold F_97
  simp only [List.take_length, eta2, check_eq h, Option.bind_some, bif_ne]
  by_cases hr : right c
  case neg => rw [if_neg hr, if_neg hr, if_neg (by decide)]
  rw [if_pos hr, if_pos hr, if_pos rfl]
  have hwl : c.1.length ≤ 65 := hr.1.2.1
  have e8 : IntKind.u8.wrap (c.1.length : Int) = (c.1.length : Int) := wu8 (by omega)
  have key : lim st_97_0 ((9, (c.1, ((c.1.length : Int), (0, ())))), (c, ([65, 78, 78, 69, 65, 76, 49, 0, (c.1.length : Int)], ()))) = some ((9 + 2 * c.1.length, ()), (c, (head c ++ wbs c.1 c.1.length, ()))) := by
    have := lim_seq (st := st_97_0) (fun i => ((9 + 2 * i, (c.1, ((c.1.length : Int), ((i : Int), ())))), (c, (head c ++ wbs c.1 i, ())))) (b := ((9 + 2 * c.1.length, ()), (c, (head c ++ wbs c.1 c.1.length, ())))) c.1.length (fun i hi R kn ko => by
      have w1 : IntKind.i64.wrap ((i : Int) + 1) = ((i + 1 : Nat) : Int) := by rw [wi64 (by omega)]; omega
      have hb : 1 ≤ c.1.getD i 0 ∧ c.1.getD i 0 ≤ 4096 := hr.1.2.2 i hi
      have w2 : IntKind.u64.wrap (c.1.getD i 0) = c.1.getD i 0 := wu64 (by omega)
      have hlen : (head c ++ wbs c.1 i).length = 9 + 2 * i := by simp [head, wbs_len]; omega
      simp only [st_97_0, ltI hi, natnn, and_self, decide_true, cond_true, List.take_length, Int.toNat_natCast, w1, w2, eta2]
      rw [lay2 hlen (by omega)]
      simp only [wbs, List.append_assoc, show 9 + 2 * (i + 1) = 9 + 2 * i + 2 by omega]) (fun R kn ko => by
      simp only [st_97_0, ltI', decide_false, cond_false, List.take_length, eta2])
    simp only [Int.natCast_zero, Nat.mul_zero, Nat.add_zero, wbs, List.append_nil] at this
    exact this
  rw [e8, key]
  obtain ⟨w, f, act, loss, opt, sched, rate, mu, beta, eps, decay, clip, warm, total, batch, accum, seed, drop, chance, log, mi, ma, bk, gr, itv, save, _⟩ := c
  obtain ⟨_, _, ⟨k1, k2, k3, k4, k5⟩, ⟨n1, n2, n3, n4, n5, n6⟩, ⟨q1, q2, q3, q4, q5, q6, q7, q8, q9, q10, q11, q12⟩, _⟩ := hr
  obtain ⟨u1, u2, u3, u4, u5, u6⟩ := h
  obtain ⟨s1, s2⟩ := hsd
  simp only [CfgT.f, CfgT.act, CfgT.loss, CfgT.opt, CfgT.sched, CfgT.rate, CfgT.mu, CfgT.beta, CfgT.eps, CfgT.decay, CfgT.clip, CfgT.warm, CfgT.total, CfgT.batch, CfgT.accum, CfgT.seed, CfgT.drop, CfgT.chance, CfgT.log, CfgT.mi, CfgT.ma, CfgT.bk, CfgT.gr, CfgT.itv, CfgT.save, CfgT.w] at *
  have hX : (head (w, f, act, loss, opt, sched, rate, mu, beta, eps, decay, clip, warm, total, batch, accum, seed, drop, chance, log, mi, ma, bk, gr, itv, save, ()) ++ wbs w w.length).length = 9 + 2 * w.length := by simp [head, wbs_len]; omega
  unfold enc_
  rw [← List.append_assoc]
  generalize hXe : head (w, f, act, loss, opt, sched, rate, mu, beta, eps, decay, clip, warm, total, batch, accum, seed, drop, chance, log, mi, ma, bk, gr, itv, save, ()) ++ wbs w w.length = X at hX ⊢
  have hm : 9 + 2 * w.length ≤ 139 := by omega
  generalize 9 + 2 * w.length = m at hX hm ⊢
  have a1 : IntKind.u8.wrap f = f := wu8 (by omega)
  have a2 : IntKind.u8.wrap act = act := wu8 (by omega)
  have a3 : IntKind.u8.wrap loss = loss := wu8 (by omega)
  have a4 : IntKind.u8.wrap opt = opt := wu8 (by omega)
  have a5 : IntKind.u8.wrap sched = sched := wu8 (by omega)
  have a7 : IntKind.u8.wrap log = log := wu8 (by omega)
  have a8 : IntKind.u8.wrap mi = mi := wu8 (by omega)
  have a9 : IntKind.u8.wrap ma = ma := wu8 (by omega)
  have a10 : IntKind.u8.wrap bk = bk := wu8 (by omega)
  have a11 : IntKind.u8.wrap gr = gr := wu8 (by omega)
  have b1 : IntKind.u64.wrap rate = rate := wu64 (by omega)
  have b2 : IntKind.u64.wrap mu = mu := wu64 (by omega)
  have b3 : IntKind.u64.wrap beta = beta := wu64 (by omega)
  have b4 : IntKind.u64.wrap eps = eps := wu64 (by omega)
  have b5 : IntKind.u64.wrap decay = decay := wu64 (by omega)
  have b6 : IntKind.u64.wrap clip = clip := wu64 (by omega)
  have b7 : IntKind.u64.wrap drop = drop := wu64 (by omega)
  have b8 : IntKind.u64.wrap (IntKind.u32.wrap warm) = warm := by rw [wu32 (by omega), wu64 (by omega)]
  have b9 : IntKind.u64.wrap (IntKind.u32.wrap total) = total := by rw [wu32 (by omega), wu64 (by omega)]
  have b10 : IntKind.u64.wrap (IntKind.u32.wrap itv) = itv := by rw [wu32 (by omega), wu64 (by omega)]
  have b11 : IntKind.u64.wrap (IntKind.u32.wrap save) = save := by rw [wu32 (by omega), wu64 (by omega)]
  have b12 : IntKind.u64.wrap batch = batch := wu64 (by omega)
  have b13 : IntKind.u64.wrap accum = accum := wu64 (by omega)
  have hfl : F_911 chance = some (flagN chance) := by unfold F_911 flagN; cases chance <;> rfl
  have hf8 : IntKind.u8.wrap (flagN chance) = flagN chance := by unfold flagN; cases chance <;> rfl
  have l1 : (m + 1 ≤ 1073741824) = True := by simp; omega
  have l2 : (m + 1 + 1 ≤ 1073741824) = True := by simp; omega
  have l3 : (m + 1 + 1 + 1 ≤ 1073741824) = True := by simp; omega
  have l4 : (m + 1 + 1 + 1 + 1 ≤ 1073741824) = True := by simp; omega
  have l5 : (m + 1 + 1 + 1 + 1 + 1 ≤ 1073741824) = True := by simp; omega
  have l6 : (m + 1 + 1 + 1 + 1 + 1 + 1 ≤ 1073741824) = True := by simp; omega
  simp only [Option.bind_some, hfl, List.getD_cons_zero, List.getD_cons_succ, l1, l2, l3, l4, l5, l6, decide_true, cond_true, a1, a2, a3, a4, a5, hf8, b1, b2, b3, b4, b5, b6, b7, b8, b9, b10, b11, b12, b13]
  rw [tk hX, tk (n := m + 1) (by simp [hX]), tk (n := m + 1 + 1) (by simp [hX]), tk (n := m + 1 + 1 + 1) (by simp [hX]), tk (n := m + 1 + 1 + 1 + 1) (by simp [hX]), tk (n := m + 1 + 1 + 1 + 1 + 1) (by simp [hX])]
  iterate 11 (rw [lay4 (by simp [hX, bts_len]) (by omega)]; dsimp only)
  iterate 2 (rw [lay2 (by simp [hX, bts_len]) (by omega)]; dsimp only)
  rw [tk (n := m + 1 + 1 + 1 + 1 + 1 + 1 + 4 + 4 + 4 + 4 + 4 + 4 + 4 + 4 + 4 + 4 + 4 + 2 + 2) (by simp [hX, bts_len])]
  have l7 : (m + 1 + 1 + 1 + 1 + 1 + 1 + 4 + 4 + 4 + 4 + 4 + 4 + 4 + 4 + 4 + 4 + 4 + 2 + 2 + 1 ≤ 1073741824) = True := by simp; omega
  have l8 : (m + 1 + 1 + 1 + 1 + 1 + 1 + 4 + 4 + 4 + 4 + 4 + 4 + 4 + 4 + 4 + 4 + 4 + 2 + 2 + 1 + 1 ≤ 1073741824) = True := by simp; omega
  have l9 : (m + 1 + 1 + 1 + 1 + 1 + 1 + 4 + 4 + 4 + 4 + 4 + 4 + 4 + 4 + 4 + 4 + 4 + 2 + 2 + 1 + 1 + 1 ≤ 1073741824) = True := by simp; omega
  have l10 : (m + 1 + 1 + 1 + 1 + 1 + 1 + 4 + 4 + 4 + 4 + 4 + 4 + 4 + 4 + 4 + 4 + 4 + 2 + 2 + 1 + 1 + 1 + 1 ≤ 1073741824) = True := by simp; omega
  have l11 : (m + 1 + 1 + 1 + 1 + 1 + 1 + 4 + 4 + 4 + 4 + 4 + 4 + 4 + 4 + 4 + 4 + 4 + 2 + 2 + 1 + 1 + 1 + 1 + 1 ≤ 1073741824) = True := by simp; omega
  simp only [l7, l8, l9, l10, l11, decide_true, cond_true, a7, a8, a9, a10, a11]
  rw [tk (n := m + 1 + 1 + 1 + 1 + 1 + 1 + 4 + 4 + 4 + 4 + 4 + 4 + 4 + 4 + 4 + 4 + 4 + 2 + 2 + 1) (by simp [hX, bts_len]), tk (n := m + 1 + 1 + 1 + 1 + 1 + 1 + 4 + 4 + 4 + 4 + 4 + 4 + 4 + 4 + 4 + 4 + 4 + 2 + 2 + 1 + 1) (by simp [hX, bts_len]), tk (n := m + 1 + 1 + 1 + 1 + 1 + 1 + 4 + 4 + 4 + 4 + 4 + 4 + 4 + 4 + 4 + 4 + 4 + 2 + 2 + 1 + 1 + 1) (by simp [hX, bts_len]), tk (n := m + 1 + 1 + 1 + 1 + 1 + 1 + 4 + 4 + 4 + 4 + 4 + 4 + 4 + 4 + 4 + 4 + 4 + 2 + 2 + 1 + 1 + 1 + 1) (by simp [hX, bts_len])]
  rw [lay8 (by simp [hX, bts_len]) (by omega)]
  simp only [List.drop_zero]
  rw [tk (by simp [hX, bts_len])]
  simp only [tail, List.append_assoc, List.cons_append, List.nil_append]
theorem rput_eq {c : CfgT} (h : cU c) (hsd : (0 ≤ c.seed ∧ c.seed < 18446744073709551616) ∧ 0 ≤ c.drop) : F_98 c = some (if right c then (enc_ c, 0, ()) else ([], 24, ())) := by
  unfold F_98
  simp only [List.take_length, eta2, rcheck_eq h, Option.bind_some, bif_ne]
  by_cases hr : right c
  case neg => rw [if_neg hr, if_neg hr, if_neg (by decide)]
  rw [if_pos hr, if_pos hr, if_pos rfl]
  have hwl : c.1.length ≤ 65 := hr.1.2.1
  have e8 : IntKind.u8.wrap (c.1.length : Int) = (c.1.length : Int) := wu8 (by omega)
  have key : lim st_98_0 ((9, (0, ())), (c, ([65, 78, 78, 69, 65, 76, 49, 0, (c.1.length : Int)], ()))) = some ((9 + 2 * c.1.length, ()), (c, (head c ++ wbs c.1 c.1.length, ()))) := by
    have := lim_seq (st := st_98_0) (fun i => ((9 + 2 * i, ((i : Int), ())), (c, (head c ++ wbs c.1 i, ())))) (b := ((9 + 2 * c.1.length, ()), (c, (head c ++ wbs c.1 c.1.length, ())))) c.1.length (fun i hi R kn ko => by
      have w1 : IntKind.i64.wrap ((i : Int) + 1) = ((i + 1 : Nat) : Int) := by rw [wi64 (by omega)]; omega
      have hb : 1 ≤ c.1.getD i 0 ∧ c.1.getD i 0 ≤ 4096 := hr.1.2.2 i hi
      have w2 : IntKind.u64.wrap (c.1.getD i 0) = c.1.getD i 0 := wu64 (by omega)
      have hlen : (head c ++ wbs c.1 i).length = 9 + 2 * i := by simp [head, wbs_len]; omega
      simp only [st_98_0, ltI hi, natnn, and_self, decide_true, cond_true, List.take_length, Int.toNat_natCast, w1, w2, eta2]
      rw [put2 hlen (by omega)]
      simp only [wbs, List.append_assoc, show 9 + 2 * (i + 1) = 9 + 2 * i + 2 by omega]) (fun R kn ko => by
      simp only [st_98_0, ltI', decide_false, cond_false, List.take_length, eta2])
    simp only [Int.natCast_zero, Nat.mul_zero, Nat.add_zero, wbs, List.append_nil] at this
    exact this
  rw [e8, key]
  obtain ⟨w, f, act, loss, opt, sched, rate, mu, beta, eps, decay, clip, warm, total, batch, accum, seed, drop, chance, log, mi, ma, bk, gr, itv, save, _⟩ := c
  obtain ⟨_, _, ⟨k1, k2, k3, k4, k5⟩, ⟨n1, n2, n3, n4, n5, n6⟩, ⟨q1, q2, q3, q4, q5, q6, q7, q8, q9, q10, q11, q12⟩, _⟩ := hr
  obtain ⟨u1, u2, u3, u4, u5, u6⟩ := h
  obtain ⟨s1, s2⟩ := hsd
  simp only [CfgT.f, CfgT.act, CfgT.loss, CfgT.opt, CfgT.sched, CfgT.rate, CfgT.mu, CfgT.beta, CfgT.eps, CfgT.decay, CfgT.clip, CfgT.warm, CfgT.total, CfgT.batch, CfgT.accum, CfgT.seed, CfgT.drop, CfgT.chance, CfgT.log, CfgT.mi, CfgT.ma, CfgT.bk, CfgT.gr, CfgT.itv, CfgT.save, CfgT.w] at *
  have hX : (head (w, f, act, loss, opt, sched, rate, mu, beta, eps, decay, clip, warm, total, batch, accum, seed, drop, chance, log, mi, ma, bk, gr, itv, save, ()) ++ wbs w w.length).length = 9 + 2 * w.length := by simp [head, wbs_len]; omega
  unfold enc_
  rw [← List.append_assoc]
  generalize hXe : head (w, f, act, loss, opt, sched, rate, mu, beta, eps, decay, clip, warm, total, batch, accum, seed, drop, chance, log, mi, ma, bk, gr, itv, save, ()) ++ wbs w w.length = X at hX ⊢
  have hm : 9 + 2 * w.length ≤ 139 := by omega
  generalize 9 + 2 * w.length = m at hX hm ⊢
  have a1 : IntKind.u8.wrap f = f := wu8 (by omega)
  have a2 : IntKind.u8.wrap act = act := wu8 (by omega)
  have a3 : IntKind.u8.wrap loss = loss := wu8 (by omega)
  have a4 : IntKind.u8.wrap opt = opt := wu8 (by omega)
  have a5 : IntKind.u8.wrap sched = sched := wu8 (by omega)
  have a7 : IntKind.u8.wrap log = log := wu8 (by omega)
  have a8 : IntKind.u8.wrap mi = mi := wu8 (by omega)
  have a9 : IntKind.u8.wrap ma = ma := wu8 (by omega)
  have a10 : IntKind.u8.wrap bk = bk := wu8 (by omega)
  have a11 : IntKind.u8.wrap gr = gr := wu8 (by omega)
  have b1 : IntKind.u64.wrap rate = rate := wu64 (by omega)
  have b2 : IntKind.u64.wrap mu = mu := wu64 (by omega)
  have b3 : IntKind.u64.wrap beta = beta := wu64 (by omega)
  have b4 : IntKind.u64.wrap eps = eps := wu64 (by omega)
  have b5 : IntKind.u64.wrap decay = decay := wu64 (by omega)
  have b6 : IntKind.u64.wrap clip = clip := wu64 (by omega)
  have b7 : IntKind.u64.wrap drop = drop := wu64 (by omega)
  have b8 : IntKind.u64.wrap (IntKind.u32.wrap warm) = warm := by rw [wu32 (by omega), wu64 (by omega)]
  have b9 : IntKind.u64.wrap (IntKind.u32.wrap total) = total := by rw [wu32 (by omega), wu64 (by omega)]
  have b10 : IntKind.u64.wrap (IntKind.u32.wrap itv) = itv := by rw [wu32 (by omega), wu64 (by omega)]
  have b11 : IntKind.u64.wrap (IntKind.u32.wrap save) = save := by rw [wu32 (by omega), wu64 (by omega)]
  have b12 : IntKind.u64.wrap batch = batch := wu64 (by omega)
  have b13 : IntKind.u64.wrap accum = accum := wu64 (by omega)
  have hfl : (bif chance then (1 : Int) else 0) = flagN chance := rfl
  have l1 : (m + 6 ≤ 1073741824) = True := by simp; omega
  simp only [Option.bind_some, hfl, List.getD_cons_zero, List.getD_cons_succ, l1, decide_true, cond_true, a1, a2, a3, a4, a5, b1, b2, b3, b4, b5, b6, b7, b8, b9, b10, b11, b12, b13]
  rw [tk hX]
  iterate 11 (rw [put4 (by simp [hX, bts_len]) (by omega)]; dsimp only)
  iterate 2 (rw [put2 (by simp [hX, bts_len]) (by omega)]; dsimp only)
  have l7 : (m + 6 + 4 + 4 + 4 + 4 + 4 + 4 + 4 + 4 + 4 + 4 + 4 + 2 + 2 + 5 ≤ 1073741824) = True := by simp; omega
  simp only [l7, decide_true, cond_true, a7, a8, a9, a10, a11]
  rw [tk (n := m + 6 + 4 + 4 + 4 + 4 + 4 + 4 + 4 + 4 + 4 + 4 + 4 + 2 + 2) (by simp [hX, bts_len])]
  rw [put8 (by simp [hX, bts_len]) (by omega)]
  simp only [List.drop_zero]
  rw [tk (by simp [hX, bts_len])]
  simp only [tail, List.append_assoc, List.cons_append, List.nil_append]
noncomputable def O_91b : Orc := orn
theorem okO_91b : OrcOk PR O_91b := (orn_ok _)
abbrev fa_91b : Fm := (.cst (.ref 0 1 0) (.pair (.i .i64) .unit))
abbrev ha_91b : List BF := [(.list 1 y_93 true (.pair (.si .u8) .unit))]
abbrev fr_91b : Fm := (.i .u64)
abbrev hr_91b : List BF := [(.list 1 y_93 true (.pair (.si .u8) .unit))]
abbrev ff_91b_0 : Fm := (.cst (.ref 0 1 0) (.pair (.i .i64) (.us 3 (.pair (.i .u64) (.us 6 (.pair (.si .u8) (.pair (.i .i64) (.pair (.i .i64) (.us 21 .unit)))))))))
abbrev hf_91b_0 : List BF := [(.list 1 y_93 true (.pair (.si .u8) .unit))]
abbrev X_91b_0 : Xs := (.one (.exit 0) [0, 1, 5] (.cst (.ref 0 1 0) (.pair (.i .i64) (.us 3 (.pair (.i .u64) (.us 30 .unit))))) [(.list 1 y_93 true (.pair (.si .u8) .unit))])
abbrev S_91b_0 : Type := T ff_91b_0 × TH hf_91b_0
abbrev E_91b_0 : Type := TX X_91b_0
noncomputable def LB_91b_0 : Lps := L0
noncomputable def st_91b_0 : StepT S_91b_0 E_91b_0 := fun R v kn ko =>
 let x0 : Int := v.1.1
 let x1 : Int := v.1.2.1
 let x2 : List Int := v.1.2.2.1
 let x3 : Int := v.1.2.2.2.2.1
 let x4 : List Int := v.2.1.1
 bif (decide (x3 < v.1.2.2.2.1)) then
 bif (decide (((0:Int) ≤ x3) ∧ (x3 < (((List.length x2) : Nat) : Int)))) then
 bif (decide ((0:Int) ≤ (IntKind.wrap .u64 (IntKind.wrap .i64 ((8:Int) * x3))))) then
 (kn ((x0, ((bits .or .u64 x1 (IntKind.wrap .u64 ((IntKind.wrap .u64 (List.getD x2 (Int.toNat x3) (0:Int))) * ((2:Int) ^ (Min.min (Int.toNat (IntKind.wrap .u64 (IntKind.wrap .i64 ((8:Int) * x3)))) (64:Nat)))))), ((List.take (List.length x2) x2), (v.1.2.2.2.1, ((IntKind.wrap .i64 (x3 + (1:Int))), ()))))), (((List.take (List.length x4) x4), ()), ())))
 else
 none
 else
 none
 else
 (ko ((x0, (x1, ())), (((List.take (List.length x4) x4), ()), ())))
noncomputable def ls_91b_0 : St → LTr := (lsum ff_91b_0 hf_91b_0 X_91b_0 Prod.mk id st_91b_0 (hd [] [] [0, 1, 5, 12, 13, 14] 1))
theorem lp_91b_0 : LoopOk PR 1 (lpN f_91b 0) ls_91b_0 := loopT okO_91b mixed (L := LB_91b_0) (d := 1) (bs := []) (ks := [0, 1, 5, 12, 13, 14]) (loopsL (l := []) (by kernel_rfl) trivial) (by kernel_rfl) (inS := Prod.mk) (outS := id) (fun _ _ => rfl) (inX := id) (outX := id) (fun _ => rfl) (fun v R kn ko => by kernel_rfl) (hd_wk [] [] [0, 1, 5, 12, 13, 14] 1)
noncomputable def L_91b : Lps := (lpB 4 (.by_ ls_91b_0) L0)
def inn_91b : T fr_91b → TH hr_91b → (Int) × ((List Int × Unit) × Unit) := Prod.mk
def out_91b : (Int) × ((List Int × Unit) × Unit) → T fr_91b × TH hr_91b := id
noncomputable def F_91b (a0 : Int) (a1 : List Int × Unit) : Option ((Int) × ((List Int × Unit) × Unit)) :=
 let x0 : Nat := ((Int.toNat a0) - (0:Nat))
 bif (decide (((0:Int) ≤ (0:Int)) ∧ (((0:Int) ≤ a0) ∧ (a0 ≤ (((List.length a1.1) : Nat) : Int))))) then
 ((lim st_91b_0 ((a0, ((0:Int), ((List.take x0 (List.take x0 (List.drop (0:Nat) a1.1))), (((x0 : Nat) : Int), ((0:Int), ()))))), (((List.take (List.length a1.1) a1.1), ()), ())))).bind fun r1 =>
 let x2 : List Int := r1.2.1.1
 let x3 : Nat := (Int.toNat r1.1.1)
 let x4 : Nat := ((Int.toNat (((List.length x2) : Nat) : Int)) - x3)
 bif (decide (((0:Int) ≤ r1.1.1) ∧ ((r1.1.1 ≤ (((List.length x2) : Nat) : Int)) ∧ ((((List.length x2) : Nat) : Int) ≤ (((List.length x2) : Nat) : Int))))) then
 (some (r1.1.2.1, (((List.take x4 (List.take x4 (List.drop x3 x2))), ()), ())))
 else
 none
 else
 none
noncomputable def G_91b : T fa_91b → TH ha_91b → Option ((Int) × ((List Int × Unit) × Unit)) := fun x y => F_91b x.1 y.1
noncomputable def c_91b : Orc := ent i_91b [true] 0 (sp fa_91b ha_91b fr_91b hr_91b G_91b out_91b)
theorem ok_91b : OrcOk PR c_91b := fnT okO_91b mixed p_91b (by kernel_rfl) (by kernel_rfl) (L := L_91b) (kp := false) (by kernel_rfl) (inn := inn_91b) (out := out_91b) (fun _ _ => rfl) (loopsL (l := [((lpN f_91b 0), ls_91b_0)]) (by kernel_rfl) ⟨lp_91b_0, trivial⟩) (fun x y => by kernel_rfl)
def leN : Nat → List Int → Int
  | 0, _ => 0
  | k + 1, xs => leN k xs + xs.getD k 0 * 2 ^ (8 * k)
def byt (xs : List Int) : Prop := ∀ i, 0 ≤ xs.getD i 0 ∧ xs.getD i 0 < 256
theorem byt_drop {xs : List Int} (h : byt xs) (n : Nat) : byt (xs.drop n) := fun i => by
  have := h (n + i)
  simpa [List.getD_eq_getElem?_getD, List.getElem?_drop] using this
theorem p8 (k : Nat) : (2 : Int) ^ (8 * (k + 1)) = 256 * 2 ^ (8 * k) := by
  rw [show 8 * (k + 1) = 8 * k + 8 by omega, Int.pow_add, Int.mul_comm]; rfl
theorem p8pos (k : Nat) : (0 : Int) < 2 ^ (8 * k) := Int.pow_pos (by decide)
theorem leN_bd {xs : List Int} (h : byt xs) : ∀ k, 0 ≤ leN k xs ∧ leN k xs < 2 ^ (8 * k)
  | 0 => by simp [leN]
  | k + 1 => by
    have ih := leN_bd h k
    have hp := p8pos k
    have hx := h k
    simp only [leN]
    rw [p8]
    have h1 : xs.getD k 0 * 2 ^ (8 * k) ≤ 255 * 2 ^ (8 * k) := Int.mul_le_mul_of_nonneg_right (by omega) (by omega)
    have h2 : 0 ≤ xs.getD k 0 * 2 ^ (8 * k) := Int.mul_nonneg hx.1 (by omega)
    omega
theorem p64 {k : Nat} (h : k ≤ 8) : (2 : Int) ^ (8 * k) ≤ 18446744073709551616 := by
  have : (2 : Nat) ^ (8 * k) ≤ 2 ^ 64 := Nat.pow_le_pow_right (by omega) (by omega)
  have h3 : ((2 ^ (8 * k) : Nat) : Int) ≤ ((2 ^ 64 : Nat) : Int) := by exact_mod_cast this
  simpa using h3
theorem leN_64 {xs : List Int} (h : byt xs) {k : Nat} (hk : k ≤ 8) : 0 ≤ leN k xs ∧ leN k xs < 18446744073709551616 := by
  have := leN_bd h k; have := p64 hk; omega
theorem take_eq {xs : List Int} (h : byt xs) {k : Nat} (hk : k ≤ 8) (hl : k ≤ xs.length) (hL : xs.length ≤ 1073741824) : F_91b (k : Int) (xs, ()) = some (leN k xs, (xs.drop k, ()), ()) := by
  unfold F_91b
  have c0 : ((0 : Int) ≤ 0 ∧ 0 ≤ (k : Int) ∧ (k : Int) ≤ (xs.length : Int)) = True := by simp; omega
  simp only [c0, decide_true, cond_true, Int.toNat_natCast, Nat.sub_zero, List.drop_zero, List.take_take, Nat.min_self, List.take_length]
  have key := lim_seq (st := st_91b_0) (fun i => (((k : Int), (leN i xs, (xs.take k, ((k : Int), ((i : Int), ()))))), ((xs, ()), ()))) (b := (((k : Int), (leN k xs, ())), ((xs, ()), ()))) k (fun i hi R kn ko => by
    have hlen : (xs.take k).length = k := by simp; omega
    have w1 : IntKind.i64.wrap ((i : Int) + 1) = ((i + 1 : Nat) : Int) := by rw [wi64 (by omega)]; omega
    have w2 : IntKind.i64.wrap (8 * (i : Int)) = ((8 * i : Nat) : Int) := by rw [wi64 (by omega)]; omega
    have w3 : IntKind.u64.wrap ((8 * i : Nat) : Int) = ((8 * i : Nat) : Int) := wu64 (by omega)
    have hm : Min.min (8 * i) 64 = 8 * i := by omega
    have hg : (xs.take k).getD i 0 = xs.getD i 0 := by simp [List.getD_eq_getElem?_getD, List.getElem?_take, hi]
    have hx := h i
    have hb := leN_bd h i
    have hb2 := leN_bd h (i + 1)
    have hp := p64 (k := i + 1) (by omega)
    simp only [leN] at hb2
    have hp0 := p8pos i
    have h2 : 0 ≤ xs.getD i 0 * 2 ^ (8 * i) := Int.mul_nonneg hx.1 (by omega)
    have w4 : IntKind.u64.wrap (xs.getD i 0) = xs.getD i 0 := wu64 (by omega)
    have w5 : IntKind.u64.wrap (xs.getD i 0 * 2 ^ (8 * i)) = xs.getD i 0 * 2 ^ (8 * i) := wu64 (by omega)
    have ho : bits .or .u64 (leN i xs) (xs.getD i 0 * 2 ^ (8 * i)) = leN i xs + xs.getD i 0 * 2 ^ (8 * i) := by
      rw [or_comm64, or_join64 _ _ (8 * i) h2 (by omega) hb.1 hb.2 (by omega) (Int.mul_emod_left _ _)]; omega
    simp only [st_91b_0, ltI hi, natnn, and_self, hlen, decide_true, cond_true, List.take_length, Int.toNat_natCast, w1, w2, w3, hm, hg, w4, w5, ho, leN]
    rw [show List.take k (List.take k xs) = List.take k xs by rw [List.take_take, Nat.min_self]]) (fun R kn ko => by
    simp only [st_91b_0, ltI', decide_false, cond_false, List.take_length])
  simp only [Int.natCast_zero, leN] at key
  rw [key]
  have c1 : ((0 : Int) ≤ (k : Int) ∧ (k : Int) ≤ (xs.length : Int) ∧ (xs.length : Int) ≤ (xs.length : Int)) = True := by simp; omega
  simp only [Option.bind_some, c1, decide_true, cond_true, Int.toNat_natCast, List.take_take, Nat.min_self]
  rw [List.take_of_length_le (by simp)]
noncomputable def O_91c : Orc := c_91b
theorem okO_91c : OrcOk PR O_91c := ok_91b
abbrev fa_91c : Fm := (.cst (.ref 0 1 0) (.pair (.si .u8) .unit))
abbrev ha_91c : List BF := [(.list 1 y_92 true (.pair (.own 1 1 0 1) (.pair (.i .i64) (.pair (.i .i64) (.pair (.i .i64) (.pair (.i .i64) (.pair (.i .i64) (.pair (.i .u32) (.pair (.i .u32) (.pair (.i .u32) (.pair (.i .u32) (.pair (.i .u32) (.pair (.i .u32) (.pair (.i .i64) (.pair (.i .i64) (.pair (.i .i64) (.pair (.i .i64) (.pair (.i .u64) (.pair (.i .u32) (.pair .b (.pair (.i .i64) (.pair (.i .i64) (.pair (.i .i64) (.pair (.i .i64) (.pair (.i .i64) (.pair (.i .i64) (.pair (.i .i64) .unit))))))))))))))))))))))))))), (.ints 1 y_90 true .i64)]
abbrev fr_91c : Fm := (.tup .unit)
abbrev hr_91c : List BF := [(.list 1 y_92 true (.pair (.own 1 1 0 1) (.pair (.i .i64) (.pair (.i .i64) (.pair (.i .i64) (.pair (.i .i64) (.pair (.i .i64) (.pair (.i .u32) (.pair (.i .u32) (.pair (.i .u32) (.pair (.i .u32) (.pair (.i .u32) (.pair (.i .u32) (.pair (.i .i64) (.pair (.i .i64) (.pair (.i .i64) (.pair (.i .i64) (.pair (.i .u64) (.pair (.i .u32) (.pair .b (.pair (.i .i64) (.pair (.i .i64) (.pair (.i .i64) (.pair (.i .i64) (.pair (.i .i64) (.pair (.i .i64) (.pair (.i .i64) .unit))))))))))))))))))))))))))), (.ints 1 y_90 true .i64)]
noncomputable def L_91c : Lps := (lpB 21 (.un 6 [0, 3, 124, 125, 126]) (lpB 15 (.un 5 [0, 3, 88, 89, 90]) (lpB 10 (.un 8 [0, 3, 65, 66, 67]) (lpB 4 (.un 7 [0, 3, 4, 28, 29, 30]) L0))))
def inn_91c : T fr_91c → TH hr_91c → (Unit) × ((Nat × Int × Int × Int × Int × Int × Int × Int × Int × Int × Int × Int × Int × Int × Int × Int × Int × Int × Bool × Int × Int × Int × Int × Int × Int × Int × Unit) × List Int × Unit) := Prod.mk
def out_91c : (Unit) × ((Nat × Int × Int × Int × Int × Int × Int × Int × Int × Int × Int × Int × Int × Int × Int × Int × Int × Int × Bool × Int × Int × Int × Int × Int × Int × Int × Unit) × List Int × Unit) → T fr_91c × TH hr_91c := id
noncomputable def F_91c (a0 : List Int) (a1 : Nat × Int × Int × Int × Int × Int × Int × Int × Int × Int × Int × Int × Int × Int × Int × Int × Int × Int × Bool × Int × Int × Int × Int × Int × Int × Int × Unit) (a2 : List Int) : Option ((Unit) × ((Nat × Int × Int × Int × Int × Int × Int × Int × Int × Int × Int × Int × Int × Int × Int × Int × Int × Int × Bool × Int × Int × Int × Int × Int × Int × Int × Unit) × List Int × Unit)) :=
 ((F_91b (1:Int) ((List.take (List.length a0) a0), ()))).bind fun r0 =>
 let x1 : List Int := r0.2.1.1
 ((F_91b (1:Int) ((List.take (List.length x1) x1), ()))).bind fun r2 =>
 let x3 : List Int := r2.2.1.1
 ((F_91b (1:Int) ((List.take (List.length x3) x3), ()))).bind fun r4 =>
 let x5 : List Int := r4.2.1.1
 ((F_91b (1:Int) ((List.take (List.length x5) x5), ()))).bind fun r6 =>
 let x7 : List Int := r6.2.1.1
 ((F_91b (1:Int) ((List.take (List.length x7) x7), ()))).bind fun r8 =>
 let x9 : List Int := r8.2.1.1
 ((F_91b (1:Int) ((List.take (List.length x9) x9), ()))).bind fun r10 =>
 let x11 : List Int := r10.2.1.1
 ((F_91b (4:Int) ((List.take (List.length x11) x11), ()))).bind fun r12 =>
 let x13 : List Int := r12.2.1.1
 ((F_91b (4:Int) ((List.take (List.length x13) x13), ()))).bind fun r14 =>
 let x15 : List Int := r14.2.1.1
 ((F_91b (4:Int) ((List.take (List.length x15) x15), ()))).bind fun r16 =>
 let x17 : List Int := r16.2.1.1
 ((F_91b (4:Int) ((List.take (List.length x17) x17), ()))).bind fun r18 =>
 let x19 : List Int := r18.2.1.1
 ((F_91b (4:Int) ((List.take (List.length x19) x19), ()))).bind fun r20 =>
 let x21 : List Int := r20.2.1.1
 ((F_91b (4:Int) ((List.take (List.length x21) x21), ()))).bind fun r22 =>
 let x23 : List Int := r22.2.1.1
 ((F_91b (4:Int) ((List.take (List.length x23) x23), ()))).bind fun r24 =>
 let x25 : List Int := r24.2.1.1
 ((F_91b (4:Int) ((List.take (List.length x25) x25), ()))).bind fun r26 =>
 let x27 : List Int := r26.2.1.1
 ((F_91b (4:Int) ((List.take (List.length x27) x27), ()))).bind fun r28 =>
 let x29 : List Int := r28.2.1.1
 ((F_91b (4:Int) ((List.take (List.length x29) x29), ()))).bind fun r30 =>
 let x31 : List Int := r30.2.1.1
 ((F_91b (4:Int) ((List.take (List.length x31) x31), ()))).bind fun r32 =>
 let x33 : List Int := r32.2.1.1
 ((F_91b (2:Int) ((List.take (List.length x33) x33), ()))).bind fun r34 =>
 let x35 : List Int := r34.2.1.1
 ((F_91b (2:Int) ((List.take (List.length x35) x35), ()))).bind fun r36 =>
 let x37 : List Int := r36.2.1.1
 ((F_91b (1:Int) ((List.take (List.length x37) x37), ()))).bind fun r38 =>
 let x39 : List Int := r38.2.1.1
 ((F_91b (1:Int) ((List.take (List.length x39) x39), ()))).bind fun r40 =>
 let x41 : List Int := r40.2.1.1
 ((F_91b (1:Int) ((List.take (List.length x41) x41), ()))).bind fun r42 =>
 let x43 : List Int := r42.2.1.1
 ((F_91b (1:Int) ((List.take (List.length x43) x43), ()))).bind fun r44 =>
 let x45 : List Int := r44.2.1.1
 ((F_91b (1:Int) ((List.take (List.length x45) x45), ()))).bind fun r46 =>
 let x47 : List Int := r46.2.1.1
 ((F_91b (8:Int) ((List.take (List.length x47) x47), ()))).bind fun r48 =>
 (some ((), ((a1.1, ((IntKind.wrap .i64 r0.1), ((IntKind.wrap .i64 r2.1), ((IntKind.wrap .i64 r4.1), ((IntKind.wrap .i64 r6.1), ((IntKind.wrap .i64 r8.1), ((IntKind.wrap .u32 r12.1), ((IntKind.wrap .u32 r14.1), ((IntKind.wrap .u32 r16.1), ((IntKind.wrap .u32 r18.1), ((IntKind.wrap .u32 r20.1), ((IntKind.wrap .u32 r22.1), ((IntKind.wrap .i64 r26.1), ((IntKind.wrap .i64 r28.1), ((IntKind.wrap .i64 r34.1), ((IntKind.wrap .i64 r36.1), (r48.1, ((IntKind.wrap .u32 r24.1), (((List.getD (List.set [(0:Int)] (0:Nat) (IntKind.wrap .i64 r10.1)) (0:Nat) (0:Int)) != (0:Int)), ((IntKind.wrap .i64 r38.1), ((IntKind.wrap .i64 r40.1), ((IntKind.wrap .i64 r42.1), ((IntKind.wrap .i64 r44.1), ((IntKind.wrap .i64 r46.1), ((IntKind.wrap .i64 r30.1), ((IntKind.wrap .i64 r32.1), ())))))))))))))))))))))))))), (a2, ()))))
noncomputable def G_91c : T fa_91c → TH ha_91c → Option ((Unit) × ((Nat × Int × Int × Int × Int × Int × Int × Int × Int × Int × Int × Int × Int × Int × Int × Int × Int × Int × Bool × Int × Int × Int × Int × Int × Int × Int × Unit) × List Int × Unit)) := fun x y => F_91c x.1 y.1 y.2.1
noncomputable def c_91c : Orc := ent i_91c [true] 0 (sp fa_91c ha_91c fr_91c hr_91c G_91c out_91c)
theorem ok_91c : OrcOk PR c_91c := fnT okO_91c mixed p_91c (by kernel_rfl) (by kernel_rfl) (L := L_91c) (kp := false) (by kernel_rfl) (inn := inn_91c) (out := out_91c) (fun _ _ => rfl) (loopsL (l := []) (by kernel_rfl) trivial) (fun x y => by kernel_rfl)
noncomputable def O_9d : Orc := (orm c_91b (orm c_91c c_97))
theorem okO_9d : OrcOk PR O_9d := (orm_ok ok_91b (orm_ok ok_91c ok_97))
abbrev fa_9d : Fm := (.pair (.si .u8) .unit)
abbrev fr_9d : Fm := (.tup (.pair (.agg (.pair (.si .i64) (.pair (.i .i64) (.pair (.i .i64) (.pair (.i .i64) (.pair (.i .i64) (.pair (.i .i64) (.pair (.i .u32) (.pair (.i .u32) (.pair (.i .u32) (.pair (.i .u32) (.pair (.i .u32) (.pair (.i .u32) (.pair (.i .i64) (.pair (.i .i64) (.pair (.i .i64) (.pair (.i .i64) (.pair (.i .u64) (.pair (.i .u32) (.pair .b (.pair (.i .i64) (.pair (.i .i64) (.pair (.i .i64) (.pair (.i .i64) (.pair (.i .i64) (.pair (.i .i64) (.pair (.i .i64) .unit))))))))))))))))))))))))))) (.pair (.i .i64) .unit)))
abbrev ff_9d_0 : Fm := (.pair (.si .u8) (.us 1 (.cst (.ref 0 1 0) (.us 3 (.cst (.ref 1 1 0) (.cst (.ref 2 1 0) (.us 33 (.pair (.i .i64) (.pair (.i .i64) (.us 27 .unit))))))))))
abbrev hf_9d_0 : List BF := [(.list 1 y_92 true (.cst .nils (.pair (.i .i64) (.pair (.i .i64) (.pair (.i .i64) (.pair (.i .i64) (.pair (.i .i64) (.pair (.i .u32) (.pair (.i .u32) (.pair (.i .u32) (.pair (.i .u32) (.pair (.i .u32) (.pair (.i .u32) (.pair (.i .i64) (.pair (.i .i64) (.pair (.i .i64) (.pair (.i .i64) (.pair (.i .u64) (.pair (.i .u32) (.pair .b (.pair (.i .i64) (.pair (.i .i64) (.pair (.i .i64) (.pair (.i .i64) (.pair (.i .i64) (.pair (.i .i64) (.pair (.i .i64) .unit))))))))))))))))))))))))))), (.list 1 y_92 true (.pair (.own 3 1 0 1) (.pair (.i .i64) (.pair (.i .i64) (.pair (.i .i64) (.pair (.i .i64) (.pair (.i .i64) (.pair (.i .u32) (.pair (.i .u32) (.pair (.i .u32) (.pair (.i .u32) (.pair (.i .u32) (.pair (.i .u32) (.pair (.i .i64) (.pair (.i .i64) (.pair (.i .i64) (.pair (.i .i64) (.pair (.i .u64) (.pair (.i .u32) (.pair .b (.pair (.i .i64) (.pair (.i .i64) (.pair (.i .i64) (.pair (.i .i64) (.pair (.i .i64) (.pair (.i .i64) (.pair (.i .i64) .unit))))))))))))))))))))))))))), (.list 1 y_93 true (.pair (.si .u8) .unit)), (.ints 1 y_90 true .i64)]
abbrev X_9d_0 : Xs := (.one (.exit 0) [0, 2, 6, 7] (.pair (.si .u8) (.us 1 (.cst (.ref 0 1 0) (.us 3 (.cst (.ref 1 1 0) (.cst (.ref 2 1 0) (.us 62 .unit))))))) [(.list 1 y_92 true (.cst .nils (.pair (.i .i64) (.pair (.i .i64) (.pair (.i .i64) (.pair (.i .i64) (.pair (.i .i64) (.pair (.i .u32) (.pair (.i .u32) (.pair (.i .u32) (.pair (.i .u32) (.pair (.i .u32) (.pair (.i .u32) (.pair (.i .i64) (.pair (.i .i64) (.pair (.i .i64) (.pair (.i .i64) (.pair (.i .u64) (.pair (.i .u32) (.pair .b (.pair (.i .i64) (.pair (.i .i64) (.pair (.i .i64) (.pair (.i .i64) (.pair (.i .i64) (.pair (.i .i64) (.pair (.i .i64) .unit))))))))))))))))))))))))))), (.list 1 y_92 true (.pair (.own 3 1 0 1) (.pair (.i .i64) (.pair (.i .i64) (.pair (.i .i64) (.pair (.i .i64) (.pair (.i .i64) (.pair (.i .u32) (.pair (.i .u32) (.pair (.i .u32) (.pair (.i .u32) (.pair (.i .u32) (.pair (.i .u32) (.pair (.i .i64) (.pair (.i .i64) (.pair (.i .i64) (.pair (.i .i64) (.pair (.i .u64) (.pair (.i .u32) (.pair .b (.pair (.i .i64) (.pair (.i .i64) (.pair (.i .i64) (.pair (.i .i64) (.pair (.i .i64) (.pair (.i .i64) (.pair (.i .i64) .unit))))))))))))))))))))))))))), (.list 1 y_93 true (.pair (.si .u8) .unit)), (.ints 1 y_90 true .i64)])
abbrev S_9d_0 : Type := T ff_9d_0 × TH hf_9d_0
abbrev E_9d_0 : Type := TX X_9d_0
noncomputable def LB_9d_0 : Lps := L0
noncomputable def st_9d_0 : StepT S_9d_0 E_9d_0 := fun R v kn ko =>
 let x0 : List Int := v.2.2.2.1.1
 let x1 : List Int := v.1.1
 let x2 : List Int := (List.take (List.length x1) x1)
 let x3 : Nat := v.2.2.1.1
 bif (decide (v.1.2.2.1 < v.1.2.1)) then
 ((F_91b (2:Int) ((List.take (List.length x0) x0), ()))).bind fun r4 =>
 let x5 : List Int := r4.2.1.1
 bif (decide ((x3 + (1:Nat)) ≤ (1073741824:Nat))) then
 (kn ((x2, (v.1.2.1, ((IntKind.wrap .i64 (v.1.2.2.1 + (1:Int))), ()))), (v.2.1, (((x3 + (1:Nat)), v.2.2.1.2), (((List.take (List.length x5) x5), ()), (((List.take x3 v.2.2.2.2.1) ++ [(IntKind.wrap .i64 r4.1)]), ()))))))
 else
 none
 else
 (ko ((x2, ()), (v.2.1, (v.2.2.1, (((List.take (List.length x0) x0), ()), v.2.2.2.2)))))
noncomputable def ls_9d_0 : St → LTr := (lsum ff_9d_0 hf_9d_0 X_9d_0 Prod.mk id st_9d_0 (hd [(.via 6 0, y_90, 0, .ints .i64)] [] [0, 2, 6, 7, 41, 42] 0))
theorem lp_9d_0 : LoopOk PR 0 (lpN f_9d 0) ls_9d_0 := loopT okO_9d mixed (L := LB_9d_0) (d := 1) (bs := []) (ks := [0, 2, 6, 7, 41, 42]) (loopsL (l := []) (by kernel_rfl) trivial) (by kernel_rfl) (inS := Prod.mk) (outS := id) (fun _ _ => rfl) (inX := id) (outX := id) (fun _ => rfl) (fun v R kn ko => by kernel_rfl) (hd_wk [(.via 6 0, y_90, 0, .ints .i64)] [] [0, 2, 6, 7, 41, 42] 0)
noncomputable def L_9d : Lps := (lpB 11 (.by_ ls_9d_0) L0)
noncomputable def F_9d (a0 : List Int) : Option ((List Int × Int × Int × Int × Int × Int × Int × Int × Int × Int × Int × Int × Int × Int × Int × Int × Int × Int × Bool × Int × Int × Int × Int × Int × Int × Int × Unit) × Int × Unit) :=
 let x0 : Int := (IntKind.wrap .i64 (List.getD a0 (8:Nat) (0:Int)))
 let x1 : Nat := ((Int.toNat (((List.length a0) : Nat) : Int)) - (9:Nat))
 bif (decide ((((List.length a0) : Nat) : Int) < (9:Int))) then
 (some (([], ((0:Int), ((0:Int), ((0:Int), ((0:Int), ((0:Int), ((0:Int), ((0:Int), ((0:Int), ((0:Int), ((0:Int), ((0:Int), ((0:Int), ((0:Int), ((0:Int), ((0:Int), ((0:Int), ((0:Int), (false, ((0:Int), ((0:Int), ((0:Int), ((0:Int), ((0:Int), ((0:Int), ((0:Int), ())))))))))))))))))))))))))), ((20:Int), ())))
 else
 bif (decide (((0:Int) ≤ (0:Int)) ∧ (((0:Int) ≤ (8:Int)) ∧ ((8:Int) ≤ (((List.length a0) : Nat) : Int))))) then
 bif (!((List.map b8 (List.take (8:Nat) (List.take (8:Nat) (List.drop (0:Nat) a0)))) == [(65:Int), (78:Int), (78:Int), (69:Int), (65:Int), (76:Int), (49:Int), (0:Int)])) then
 (some (([], ((0:Int), ((0:Int), ((0:Int), ((0:Int), ((0:Int), ((0:Int), ((0:Int), ((0:Int), ((0:Int), ((0:Int), ((0:Int), ((0:Int), ((0:Int), ((0:Int), ((0:Int), ((0:Int), ((0:Int), (false, ((0:Int), ((0:Int), ((0:Int), ((0:Int), ((0:Int), ((0:Int), ((0:Int), ())))))))))))))))))))))))))), ((20:Int), ())))
 else
 bif (decide (((0:Int) ≤ (8:Int)) ∧ ((8:Int) < (((List.length a0) : Nat) : Int)))) then
 bif ((((List.length a0) : Nat) : Int) != (IntKind.wrap .i64 ((IntKind.wrap .i64 ((IntKind.wrap .i64 ((IntKind.wrap .i64 ((IntKind.wrap .i64 ((IntKind.wrap .i64 ((9:Int) + (IntKind.wrap .i64 ((2:Int) * x0)))) + (6:Int))) + (44:Int))) + (4:Int))) + (5:Int))) + (8:Int)))) then
 (some (([], ((0:Int), ((0:Int), ((0:Int), ((0:Int), ((0:Int), ((0:Int), ((0:Int), ((0:Int), ((0:Int), ((0:Int), ((0:Int), ((0:Int), ((0:Int), ((0:Int), ((0:Int), ((0:Int), ((0:Int), (false, ((0:Int), ((0:Int), ((0:Int), ((0:Int), ((0:Int), ((0:Int), ((0:Int), ())))))))))))))))))))))))))), ((20:Int), ())))
 else
 bif (decide (((0:Int) ≤ (9:Int)) ∧ (((9:Int) ≤ (((List.length a0) : Nat) : Int)) ∧ ((((List.length a0) : Nat) : Int) ≤ (((List.length a0) : Nat) : Int))))) then
 ((lim st_9d_0 (((List.take (List.length a0) a0), (x0, ((0:Int), ()))), (((0:Int), ((0:Int), ((0:Int), ((0:Int), ((0:Int), ((0:Int), ((0:Int), ((0:Int), ((0:Int), ((0:Int), ((0:Int), ((0:Int), ((0:Int), ((0:Int), ((0:Int), ((0:Int), ((0:Int), (false, ((0:Int), ((0:Int), ((0:Int), ((0:Int), ((0:Int), ((0:Int), ((0:Int), ()))))))))))))))))))))))))), (((0:Nat), ((0:Int), ((0:Int), ((0:Int), ((0:Int), ((0:Int), ((0:Int), ((0:Int), ((0:Int), ((0:Int), ((0:Int), ((0:Int), ((0:Int), ((0:Int), ((0:Int), ((0:Int), ((0:Int), ((0:Int), (false, ((0:Int), ((0:Int), ((0:Int), ((0:Int), ((0:Int), ((0:Int), ((0:Int), ())))))))))))))))))))))))))), (((List.take x1 (List.take x1 (List.drop (9:Nat) a0))), ()), ([], ()))))))).bind fun r2 =>
 let x3 : List Int := r2.2.2.2.1.1
 let x4 : List Int := r2.1.1
 ((F_91c (List.take (List.length x3) x3) r2.2.2.1 r2.2.2.2.2.1)).bind fun r5 =>
 ((F_97 ((List.take r5.2.1.1 (List.drop (0:Nat) r5.2.2.1)), r5.2.1.2))).bind fun r6 =>
 bif (r6.2.1 != (0:Int)) then
 (some (([], ((0:Int), ((0:Int), ((0:Int), ((0:Int), ((0:Int), ((0:Int), ((0:Int), ((0:Int), ((0:Int), ((0:Int), ((0:Int), ((0:Int), ((0:Int), ((0:Int), ((0:Int), ((0:Int), ((0:Int), (false, ((0:Int), ((0:Int), ((0:Int), ((0:Int), ((0:Int), ((0:Int), ((0:Int), ())))))))))))))))))))))))))), ((20:Int), ())))
 else
 bif (!((List.map b8 (List.take (List.length r6.1) r6.1)) == (List.map b8 (List.take (List.length x4) x4)))) then
 (some (([], ((0:Int), ((0:Int), ((0:Int), ((0:Int), ((0:Int), ((0:Int), ((0:Int), ((0:Int), ((0:Int), ((0:Int), ((0:Int), ((0:Int), ((0:Int), ((0:Int), ((0:Int), ((0:Int), ((0:Int), (false, ((0:Int), ((0:Int), ((0:Int), ((0:Int), ((0:Int), ((0:Int), ((0:Int), ())))))))))))))))))))))))))), ((20:Int), ())))
 else
 (some (((List.take r5.2.1.1 (List.drop (0:Nat) r5.2.2.1)), r5.2.1.2), ((0:Int), ())))
 else
 none
 else
 none
 else
 none
noncomputable def G_9d : T fa_9d → TH hN0 → Option ((List Int × Int × Int × Int × Int × Int × Int × Int × Int × Int × Int × Int × Int × Int × Int × Int × Int × Int × Bool × Int × Int × Int × Int × Int × Int × Int × Unit) × Int × Unit) := fun x y => F_9d x.1
noncomputable def c_9d : Orc := ent i_9d [] 0 (sp fa_9d hN0 fr_9d hN0 G_9d (outN fr_9d))
theorem ok_9d : OrcOk PR c_9d := fnT okO_9d mixed p_9d (by kernel_rfl) (by kernel_rfl) (L := L_9d) (kp := false) (by kernel_rfl) (inn := (innN fr_9d)) (out := (outN fr_9d)) (fun _ _ => rfl) (loopsL (l := [((lpN f_9d 0), ls_9d_0)]) (by kernel_rfl) ⟨lp_9d_0, trivial⟩) (fun x y => by kernel_rfl)
def wdec (b : List Int) : Nat → List Int
  | 0 => []
  | i + 1 => wdec b i ++ [leN 2 (b.drop (9 + 2 * i))]
theorem wdec_len (b : List Int) : ∀ i, (wdec b i).length = i
  | 0 => rfl
  | i + 1 => by simp [wdec, wdec_len b i]
abbrev CfgF : Type := Int × Int × Int × Int × Int × Int × Int × Int × Int × Int × Int × Int × Int × Int × Int × Int × Int × Bool × Int × Int × Int × Int × Int × Int × Int × Unit
def decF (q : List Int) (ch : Bool) : CfgF :=
  (leN 1 (q.drop 0), leN 1 (q.drop 1), leN 1 (q.drop 2), leN 1 (q.drop 3), leN 1 (q.drop 4), leN 4 (q.drop 6), leN 4 (q.drop 10), leN 4 (q.drop 14), leN 4 (q.drop 18), leN 4 (q.drop 22), leN 4 (q.drop 26),
    leN 4 (q.drop 34), leN 4 (q.drop 38), leN 2 (q.drop 50), leN 2 (q.drop 52), leN 8 (q.drop 59), leN 4 (q.drop 30), ch, leN 1 (q.drop 54), leN 1 (q.drop 55), leN 1 (q.drop 56), leN 1 (q.drop 57), leN 1 (q.drop 58), leN 4 (q.drop 42), leN 4 (q.drop 46), ())
theorem leN_i64 {q : List Int} (h : byt q) (j : Nat) {k : Nat} (hk : k ≤ 4) : IntKind.i64.wrap (leN k (q.drop j)) = leN k (q.drop j) := by
  have := leN_bd (byt_drop h j) k
  have h2 : (2 : Int) ^ (8 * k) ≤ 4294967296 := pow_le32 (8 * k) (by omega)
  exact wi64 (by omega)
theorem leN_u32 {q : List Int} (h : byt q) (j : Nat) {k : Nat} (hk : k ≤ 4) : 0 ≤ leN k (q.drop j) ∧ leN k (q.drop j) < 4294967296 := by
  have := leN_bd (byt_drop h j) k
  have h2 : (2 : Int) ^ (8 * k) ≤ 4294967296 := pow_le32 (8 * k) (by omega)
  omega
theorem leN_w32 {q : List Int} (h : byt q) (j : Nat) {k : Nat} (hk : k ≤ 4) : IntKind.u32.wrap (leN k (q.drop j)) = leN k (q.drop j) := by
  have := leN_u32 h j hk
  exact wu32 (by omega)
theorem tkj {α : Type} {q : List Int} (h : byt q) (hL : q.length ≤ 1073741824) (j : Nat) {k : Nat} (hk : k ≤ 8) (hl : j + k ≤ q.length) {K : Int × ((List Int × Unit) × Unit) → Option α} :
    (F_91b (k : Int) (q.drop j, ())).bind K = K (leN k (q.drop j), (q.drop (j + k), ()), ()) := by
  rw [take_eq (byt_drop h j) hk (by simp; omega) (by simp; omega)]
  simp [List.drop_drop]
theorem tkj1 {α : Type} {q : List Int} (h : byt q) (hL : q.length ≤ 1073741824) {j : Nat} (hl : j + 1 ≤ q.length) {K : Int × ((List Int × Unit) × Unit) → Option α} :
    (F_91b 1 (q.drop j, ())).bind K = K (leN 1 (q.drop j), (q.drop (j + 1), ()), ()) := tkj (k := 1) h hL j (by omega) hl
theorem tkj2 {α : Type} {q : List Int} (h : byt q) (hL : q.length ≤ 1073741824) {j : Nat} (hl : j + 2 ≤ q.length) {K : Int × ((List Int × Unit) × Unit) → Option α} :
    (F_91b 2 (q.drop j, ())).bind K = K (leN 2 (q.drop j), (q.drop (j + 2), ()), ()) := tkj (k := 2) h hL j (by omega) hl
theorem tkj4 {α : Type} {q : List Int} (h : byt q) (hL : q.length ≤ 1073741824) {j : Nat} (hl : j + 4 ≤ q.length) {K : Int × ((List Int × Unit) × Unit) → Option α} :
    (F_91b 4 (q.drop j, ())).bind K = K (leN 4 (q.drop j), (q.drop (j + 4), ()), ()) := tkj (k := 4) h hL j (by omega) hl
theorem tkj8 {α : Type} {q : List Int} (h : byt q) (hL : q.length ≤ 1073741824) {j : Nat} (hl : j + 8 ≤ q.length) {K : Int × ((List Int × Unit) × Unit) → Option α} :
    (F_91b 8 (q.drop j, ())).bind K = K (leN 8 (q.drop j), (q.drop (j + 8), ()), ()) := tkj (k := 8) h hL j (by omega) hl
theorem fill_eq {q : List Int} (h : byt q) (hl : q.length = 67) (n : Nat) (B : CfgF) (a2 : List Int) : F_91c q (n, B) a2 = some ((), (n, decF q (leN 1 (q.drop 5) != 0)), a2, ()) := by
  have hL : q.length ≤ 1073741824 := by omega
  have e0 : q = q.drop 0 := by simp
  unfold F_91c
  simp only [List.take_length]
  conv => lhs; arg 1; rw [e0]
  iterate 6 (rw [tkj1 h hL (by omega)]; dsimp only)
  iterate 11 (rw [tkj4 h hL (by omega)]; dsimp only)
  iterate 2 (rw [tkj2 h hL (by omega)]; dsimp only)
  iterate 5 (rw [tkj1 h hL (by omega)]; dsimp only)
  rw [tkj8 h hL (by omega)]
  simp only [leN_i64 h _ (show 1 ≤ 4 by omega), leN_i64 h _ (show 2 ≤ 4 by omega), leN_i64 h _ (show 4 ≤ 4 by omega), leN_w32 h _ (show 4 ≤ 4 by omega), decF, Nat.reduceAdd, List.set_cons_zero, List.getD_cons_zero]
theorem b8_id {l : List Int} (h : byt l) : l.map b8 = l := by
  have : ∀ e ∈ l, b8 e = e := fun e he => by
    obtain ⟨i, hi, rfl⟩ := List.getElem_of_mem he
    have := h i
    rw [List.getD_eq_getElem?_getD, List.getElem?_eq_getElem hi] at this
    simp only [Option.getD_some] at this
    unfold b8; omega
  calc l.map b8 = l.map id := List.map_congr_left this
    _ = l := List.map_id l
theorem byt_mem {l : List Int} (h : ∀ e ∈ l, 0 ≤ e ∧ e < 256) : byt l := fun i => by
  rw [List.getD_eq_getElem?_getD]
  cases hl : l[i]? with
  | none => simp
  | some e => exact h e (List.mem_of_getElem? hl)
theorem bts_mem {k : Nat} {v e : Int} (h : e ∈ bts k v) : 0 ≤ e ∧ e < 256 := by
  simp only [bts, List.mem_map] at h
  obtain ⟨i, _, rfl⟩ := h
  omega
theorem wbs_mem {w : List Int} {e : Int} : ∀ {i : Nat}, e ∈ wbs w i → 0 ≤ e ∧ e < 256
  | 0, h => by simp [wbs] at h
  | i + 1, h => by
    simp only [wbs, List.mem_append] at h
    rcases h with h | h
    · exact wbs_mem h
    · exact bts_mem h
theorem enc_byt {c : CfgT} (hr : right c) : byt (enc_ c) := by
  refine byt_mem fun e he => ?_
  obtain ⟨w, f, act, loss, opt, sched, rate, mu, beta, eps, decay, clip, warm, total, batch, accum, seed, drop, chance, log, mi, ma, bk, gr, itv, save, _⟩ := c
  obtain ⟨⟨_, w2, _⟩, _, ⟨k1, k2, k3, k4, k5⟩, _, ⟨q1, q2, q3, q4, q5, q6, q7, q8, q9, q10, q11, q12⟩, _⟩ := hr
  simp only [CfgT.f, CfgT.act, CfgT.loss, CfgT.opt, CfgT.sched, CfgT.rate, CfgT.mu, CfgT.beta, CfgT.eps, CfgT.decay, CfgT.clip, CfgT.warm, CfgT.total, CfgT.batch, CfgT.accum, CfgT.seed, CfgT.drop, CfgT.chance, CfgT.log, CfgT.mi, CfgT.ma, CfgT.bk, CfgT.gr, CfgT.itv, CfgT.save, CfgT.w] at *
  have hf : 0 ≤ flagN chance ∧ flagN chance ≤ 1 := by cases chance <;> simp [flagN]
  simp only [enc_, head, tail, CfgT.f, CfgT.act, CfgT.loss, CfgT.opt, CfgT.sched, CfgT.rate, CfgT.mu, CfgT.beta, CfgT.eps, CfgT.decay, CfgT.clip, CfgT.warm, CfgT.total, CfgT.batch, CfgT.accum, CfgT.seed, CfgT.drop, CfgT.chance, CfgT.log, CfgT.mi, CfgT.ma, CfgT.bk, CfgT.gr, CfgT.itv, CfgT.save, CfgT.w, List.mem_append, List.mem_cons, List.not_mem_nil, or_false] at he
  rcases he with he | he | he
  · rcases he with rfl | rfl | rfl | rfl | rfl | rfl | rfl | rfl | rfl <;> omega
  · exact wbs_mem he
  rcases he with he | he
  · rcases he with rfl | rfl | rfl | rfl | rfl | rfl <;> omega
  iterate 13
    rcases he with he | he
    · exact bts_mem he
  rcases he with he | he
  · rcases he with rfl | rfl | rfl | rfl | rfl <;> omega
  · exact bts_mem he
def nW (b : List Int) : Nat := (b.getD 8 0).toNat
def decC (b : List Int) (ch : Bool) : CfgT := (wdec b (nW b), decF (b.drop (9 + 2 * nW b)) ch)
def decP (b : List Int) : CfgT := decC b (leN 1 ((b.drop (9 + 2 * nW b)).drop 5) != 0)
def decQ (b : List Int) : CfgT := decC b (leN 1 ((b.drop (9 + 2 * nW b)).drop 5) == 1)
theorem decC_cU {b : List Int} (h : byt b) (ch : Bool) : cU (decC b ch) := by
  have hq := byt_drop h (9 + 2 * nW b)
  exact ⟨leN_u32 hq 6 (by omega), leN_u32 hq 10 (by omega), leN_u32 hq 14 (by omega), leN_u32 hq 18 (by omega), leN_u32 hq 22 (by omega), leN_u32 hq 26 (by omega)⟩
theorem decC_sd {b : List Int} (h : byt b) (ch : Bool) : (0 ≤ (decC b ch).seed ∧ (decC b ch).seed < 18446744073709551616) ∧ 0 ≤ (decC b ch).drop := by
  have hq := byt_drop h (9 + 2 * nW b)
  exact ⟨leN_64 (byt_drop hq 59) (by omega), (leN_u32 hq 30 (by omega)).1⟩
def zCfg : CfgT := ([], 0, 0, 0, 0, 0, 0, 0, 0, 0, 0, 0, 0, 0, 0, 0, 0, 0, false, 0, 0, 0, 0, 0, 0, 0, ())
def isE (b : List Int) (c : CfgT) : Prop := right c ∧ enc_ c = b
noncomputable instance (b : List Int) (c : CfgT) : Decidable (isE b c) := Classical.propDecidable _
theorem nW_bd {b : List Int} (h : byt b) : nW b < 256 ∧ (nW b : Int) = b.getD 8 0 := by
  have := h 8; unfold nW; omega
theorem isE_len {b : List Int} {c : CfgT} (h : isE b c) : b.length = 76 + 2 * nW b ∧ b.take 8 = [65, 78, 78, 69, 65, 76, 49, 0] ∧ nW b = c.1.length := by
  obtain ⟨h1, h2⟩ := h
  have hn : nW b = c.1.length := by subst h2; simp [nW, enc_, head]
  refine ⟨?_, ?_, hn⟩
  · rw [hn, ← h2, enc_len]
  · subst h2; simp [enc_, head]
theorem cread_eq {b : List Int} (h : byt b) (hL : b.length ≤ 1073741824) : F_9d b = some (if isE b (decP b) then (decP b, 0, ()) else (zCfg, 20, ())) := by
  obtain ⟨n1, n2⟩ := nW_bd h
  unfold F_9d
  have e0 : IntKind.i64.wrap (b.getD 8 0) = (nW b : Int) := by rw [← n2]; exact wi64 (by omega)
  rw [bif_dec]
  split
  · rename_i hl
    rw [if_neg]; rfl
    intro k; have := (isE_len k).1; omega
  rename_i hl
  have c0 : ((0 : Int) ≤ 0 ∧ (0 : Int) ≤ 8 ∧ (8 : Int) ≤ (b.length : Int)) = True := by simp; omega
  have c1 : ((0 : Int) ≤ 8 ∧ (8 : Int) < (b.length : Int)) = True := by simp; omega
  have c2 : ((0 : Int) ≤ 9 ∧ (9 : Int) ≤ (b.length : Int) ∧ (b.length : Int) ≤ (b.length : Int)) = True := by simp; omega
  simp only [c0, c1, c2, decide_true, cond_true, List.take_take, Nat.min_self, List.drop_zero, e0, List.take_length]
  have hb8 : (b.take 8).map b8 = b.take 8 := by rw [List.map_take, b8_id h]
  rw [hb8]
  have w : IntKind.i64.wrap (IntKind.i64.wrap (IntKind.i64.wrap (IntKind.i64.wrap (IntKind.i64.wrap (IntKind.i64.wrap (9 + IntKind.i64.wrap (2 * (nW b : Int))) + 6) + 44) + 4) + 5) + 8) = ((76 + 2 * nW b : Nat) : Int) := by
    rw [wi64 (n := 2 * (nW b : Int)) (by omega), wi64 (n := 9 + _) (by omega), wi64 (n := _ + 6) (by omega), wi64 (n := _ + 44) (by omega), wi64 (n := _ + 4) (by omega), wi64 (n := _ + 5) (by omega), wi64 (by omega)]
    omega
  rw [w]
  by_cases hm : b.take 8 = [65, 78, 78, 69, 65, 76, 49, 0]
  case neg =>
    have : (b.take 8 == [65, 78, 78, 69, 65, 76, 49, 0]) = false := by simpa using hm
    rw [this, if_neg fun k => hm (isE_len k).2.1]; rfl
  have hm' : (b.take 8 == [65, 78, 78, 69, 65, 76, 49, 0]) = true := by simpa using hm
  simp only [hm', Bool.not_true, cond_false, bif_ne]
  by_cases hlen : b.length = 76 + 2 * nW b
  case neg => rw [if_neg (by omega), if_neg fun k => hlen (isE_len k).1]; rfl
  rw [if_pos (by omega)]
  have hq := byt_drop h (9 + 2 * nW b)
  have hql : (b.drop (9 + 2 * nW b)).length = 67 := by simp; omega
  have hd9 : List.take ((b.length : Int).toNat - 9) (b.drop 9) = b.drop 9 := List.take_of_length_le (by simp)
  rw [hd9]
  have key : ∀ (A B : CfgF), lim st_9d_0 ((b, ((nW b : Int), (0, ()))), (A, ((0, B), ((b.drop 9, ()), ([], ()))))) = some ((b, ()), (A, ((nW b, B), ((b.drop (9 + 2 * nW b), ()), (wdec b (nW b), ()))))) := fun A B => by
    have := lim_seq (st := st_9d_0) (fun i => ((b, ((nW b : Int), ((i : Int), ()))), (A, ((i, B), ((b.drop (9 + 2 * i), ()), (wdec b i, ())))))) (b := ((b, ()), (A, ((nW b, B), ((b.drop (9 + 2 * nW b), ()), (wdec b (nW b), ())))))) (nW b) (fun i hi R kn ko => by
      have w1 : IntKind.i64.wrap ((i : Int) + 1) = ((i + 1 : Nat) : Int) := by rw [wi64 (by omega)]; omega
      have hb : (i + 1 ≤ 1073741824) = True := by simp; omega
      have ht : (wdec b i).take i = wdec b i := List.take_of_length_le (by rw [wdec_len]; exact Nat.le_refl _)
      simp only [st_9d_0, ltI hi, decide_true, cond_true, List.take_length]
      rw [tkj2 h hL (by omega)]
      simp only [hb, decide_true, cond_true, w1, ht, wdec, List.take_length, leN_i64 h _ (show 2 ≤ 4 by omega)]
      rfl) (fun R kn ko => by
      simp only [st_9d_0, ltI', decide_false, cond_false, List.take_length])
    simpa [wdec] using this
  rw [key]
  simp only [Option.bind_some, List.take_length]
  rw [fill_eq hq hql]
  simp only [Option.bind_some, List.drop_zero]
  have ht : (wdec b (nW b)).take (nW b) = wdec b (nW b) := List.take_of_length_le (by rw [wdec_len]; exact Nat.le_refl _)
  rw [ht]
  show ((F_97 (decP b)).bind _) = _
  rw [cput_eq (c := decP b) (decC_cU h _) (decC_sd h _)]
  by_cases hr : right (decP b)
  case neg => rw [if_neg hr, if_neg fun k => hr k.1]; rfl
  rw [if_pos hr]
  simp only [Option.bind_some, bif_ne, if_true, List.take_length]
  rw [b8_id h]
  by_cases he : enc_ (decP b) = b
  · have hbe : byt (enc_ (decP b)) := by rw [he]; exact h
    rw [b8_id hbe, if_pos ⟨hr, he⟩]
    have : (enc_ (decP b) == b) = true := by simpa using he
    rw [this]; rfl
  · rw [if_neg fun k => he k.2]
    rw [b8_id (enc_byt hr)]
    have : (enc_ (decP b) == b) = false := by simpa using he
    rw [this]; rfl
end Go.Proofs.Ytkmkhcmfpbffjaa.VI
