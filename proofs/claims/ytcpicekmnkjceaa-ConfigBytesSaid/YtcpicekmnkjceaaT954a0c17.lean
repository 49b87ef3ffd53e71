import Derived.Test.YtcpicekmnkjceaaTf1e63b34
namespace Go.Proofs.Ytcpicekmnkjceaa.VI
set_option linter.unusedVariables false
set_option linter.unusedSimpArgs false
set_option linter.unusedSimpArgs false
set_option linter.unusedVariables false
set_option maxRecDepth 100000
set_option maxHeartbeats 4000000
abbrev fInf : Int := 2139095040
theorem wid2 : F_format_Widths 2 = some (8, 23, ()) := rfl
theorem widr2 : F_annealref1_Widths 2 = some (8, 23, ()) := rfl
theorem mask2 : F_format_Mask 2 = some 4294967295 := by decide
theorem maskr2 : F_annealref1_Mask 2 = some 4294967295 := by decide
theorem top2 : F_format_Top 2 = some 255 := by decide
theorem parts2 {a : Int} (h0 : 0 ≤ a) (h1 : a < 4294967296) : F_format_Parts 2 a = some (decide (a / 2147483648 = 1), a / 8388608 % 256, a % 8388608, ()) := by
  have e1 : bits .and .u32 (a / 2147483648) 1 = a / 2147483648 % 2 := a1 _ (by omega) (by omega)
  have e2 : bits .and .u32 (a / 8388608) 255 = a / 8388608 % 256 := a8 _ (by omega) (by omega)
  have e3 : bits .and .u32 a 8388607 = a % 8388608 := a23 _ h0 h1
  have e4 : IntKind.i64.wrap (a / 8388608 % 256) = a / 8388608 % 256 := wi64 (by omega)
  have e5 : a / 2147483648 % 2 = a / 2147483648 := by omega
  unfold F_format_Parts
  rw [wid2]
  show some _ = _
  have : ((bits .and .u32 (a / 2147483648) 1 == 1), IntKind.i64.wrap (bits .and .u32 (a / 8388608) 255), bits .and .u32 a 8388607, ()) = (decide (a / 2147483648 = 1), a / 8388608 % 256, a % 8388608, ()) := by
    rw [e1, e2, e3, e4, e5]; rfl
  exact congrArg some this
theorem pos_eq {a : Int} (h0 : 0 ≤ a) (h1 : a < 4294967296) : F_config_positive a = some (decide (a < fInf)) := by
  have e1 : bits .and .u32 (a / 2147483648) 1 = a / 2147483648 % 2 := a1 _ (by omega) (by omega)
  have e2 : bits .and .u32 (a / 8388608) 255 = a / 8388608 % 256 := a8 _ (by omega) (by omega)
  have e4 : IntKind.i64.wrap (a / 8388608 % 256) = a / 8388608 % 256 := wi64 (by omega)
  unfold F_config_positive
  rw [e1, e2, e4, bif_dec]
  split
  · congr 1
    by_cases h : a / 2147483648 % 2 = 1
    · rw [h]; have : ¬ a < fInf := by unfold fInf; omega
      simp [this]
    · have h2 : (a / 2147483648 % 2 == 1) = false := by simpa using h
      have : a < fInf := by unfold fInf; omega
      rw [h2]; simp [this]
  · refine some_f ?_
    unfold fInf; omega
theorem classr2 {a : Int} (h0 : 0 ≤ a) (h1 : a < 2147483648) : F_annealref1_Finite 2 a = some (decide (a < fInf)) := by
  have e1 : bits .and .u32 a 4294967295 = a := a32 _ (by omega) (by omega)
  have e2 : bits .and .u32 (a / 8388608) 255 = a / 8388608 % 256 := a8 _ (by omega) (by omega)
  have e3 : bits .and .u32 a 8388607 = a % 8388608 := a23 _ h0 (by omega)
  have e4 : IntKind.i64.wrap (a / 8388608 % 256) = a / 8388608 % 256 := wi64 (by omega)
  have e5 : IntKind.u64.wrap (a % 8388608) = a % 8388608 := wu64 (by omega)
  have hp : F_annealref1_parts 2 a = some (decide (a / 2147483648 = 1), a / 8388608 % 256, a % 8388608, ()) := by
    unfold F_annealref1_parts
    rw [widr2, maskr2]
    show some _ = _
    have : ((bits .and .u32 a 4294967295 / 2147483648 == 1), IntKind.i64.wrap (bits .and .u32 (bits .and .u32 a 4294967295 / 8388608) 255), IntKind.u64.wrap (bits .and .u32 (bits .and .u32 a 4294967295) 8388607), ()) = (decide (a / 2147483648 = 1), a / 8388608 % 256, a % 8388608, ()) := by
      rw [e1, e2, e3, e4, e5]; rfl
    exact congrArg some this
  have hc : F_annealref1_Class 2 a = some (if a / 8388608 % 256 = 0 then (if a % 8388608 = 0 then 0 else 1) else if a / 8388608 % 256 < 255 then 2 else if a % 8388608 = 0 then 3 else if a % 8388608 / 4194304 = 1 then 4 else 5) := by
    unfold F_annealref1_Class
    rw [widr2, hp]
    show (bif (a / 8388608 % 256 == 0) then _ else _) = _
    rw [bif_eq]
    split
    · show (bif (a % 8388608 == 0) then _ else _) = _
      rw [bif_eq]
      split
      · rfl
      · rename_i h _
        show (bif (a / 8388608 % 256 == 0) then _ else _) = _
        rw [bif_eq, if_pos h]
    · rename_i h
      show (bif (a / 8388608 % 256 == 0) then _ else _) = _
      rw [bif_eq, if_neg h]
      show (bif (decide (a / 8388608 % 256 < 255)) then _ else _) = _
      rw [bif_dec]
      split
      · rfl
      · show (bif (a % 8388608 == 0) then _ else _) = _
        rw [bif_eq]
        split
        · rfl
        · show (bif (a % 8388608 / 4194304 == 1) then _ else _) = _
          rw [bif_eq]
          split <;> rfl
  unfold F_annealref1_Finite
  rw [hc]
  show some _ = _
  refine some_dec ?_
  unfold fInf
  repeat' split
  all_goals omega
theorem plus_eq {a : Int} (h0 : 0 ≤ a) (h1 : a < 4294967296) : F_annealref24_plus a = some (decide (a < fInf)) := by
  unfold F_annealref24_plus
  rw [bif_eq]
  split
  · rw [classr2 h0 (by omega)]; rfl
  · refine some_f ?_
    unfold fInf; omega
theorem class2 {a : Int} (h0 : 0 ≤ a) (h1 : a < fInf) : ∃ c, F_format_Class 2 a = some c ∧ c < 4 ∧ (c = 0 ↔ a = 0) := by
  unfold fInf at h1
  refine ⟨if a / 8388608 % 256 = 0 then (if a % 8388608 = 0 then 0 else 1) else 2, ?_, ?_, ?_⟩
  · unfold F_format_Class
    rw [wid2, parts2 h0 (by omega), top2]
    show (bif (a / 8388608 % 256 == 0) then _ else _) = _
    rw [bif_eq]
    split
    · show (bif (a % 8388608 == 0) then _ else _) = _
      rw [bif_eq]
      split
      · rfl
      · rename_i h _
        show (bif (a / 8388608 % 256 == 0) then _ else _) = _
        rw [bif_eq, if_pos h]
    · rename_i h
      show (bif (a / 8388608 % 256 == 0) then _ else _) = _
      rw [bif_eq, if_neg h]
      show (bif (decide (a / 8388608 % 256 < 255)) then _ else _) = _
      rw [bif_dec, if_pos (by omega)]
  · repeat' split
    all_goals omega
  · repeat' split
    all_goals omega
theorem nan2 {a : Int} (h0 : 0 ≤ a) (h1 : a < fInf) : F_format_IsNan 2 a = some false := by
  obtain ⟨c, h, h2, _⟩ := class2 h0 h1
  unfold F_format_IsNan
  rw [h]; show some _ = _
  simp; omega
theorem zero2 {a : Int} (h0 : 0 ≤ a) (h1 : a < fInf) : F_format_IsZero 2 a = some (decide (a = 0)) := by
  obtain ⟨c, h, _, h2⟩ := class2 h0 h1
  unfold F_format_IsZero
  rw [h]; show some _ = _
  refine congrArg some ?_
  by_cases hc : c = 0
  · have := h2.1 hc; subst hc this; rfl
  · have : ¬ a = 0 := fun e => hc (h2.2 e)
    have h3 : (c == 0) = false := by simpa using hc
    rw [h3]; simp [this]
theorem key2 {a : Int} (h0 : 0 ≤ a) (h1 : a < fInf) : F_order_Key 2 a = some a := by
  unfold fInf at h1
  unfold F_order_Key F_format_Neg
  rw [mask2, parts2 h0 (by omega)]
  have : ¬ a / 2147483648 = 1 := by omega
  show (bif (!decide (a / 2147483648 = 1)) then _ else _) = _
  rw [bif_not, bif_dec, if_neg this, a32 _ h0 (by omega), wi64 (by omega)]
theorem less2 {a b : Int} (h0 : 0 ≤ a) (h1 : a < fInf) (k0 : 0 ≤ b) (k1 : b < fInf) : F_order_Less 2 a b = some (decide (a < b)) := by
  unfold F_order_Less F_order_Compare
  rw [nan2 h0 h1, nan2 k0 k1, key2 h0 h1, key2 k0 k1, zero2 h0 h1, zero2 k0 k1]
  simp only [Option.bind_some, cond_false, bif_dec]
  repeat' split
  all_goals (simp only [Option.bind_some]; first | (refine some_dec ?_; omega) | (congr 1; simp; omega))
theorem above_eq {a b : Int} (h0 : 0 ≤ a) (h1 : a < fInf) (k0 : 0 ≤ b) (k1 : b < fInf) : F_funcs_Above a b = some (decide (b < a)) := by
  unfold F_funcs_Above
  rw [less2 k0 k1 h0 h1]; rfl
end Go.Proofs.Ytcpicekmnkjceaa.VI

namespace Go.Proofs.Ytcpicekmnkjceaa.VI
set_option linter.unusedVariables false
set_option linter.unusedSimpArgs false
set_option linter.unusedSimpArgs false
set_option linter.unusedVariables false
def wlist (k : Int) : List Int := if k = 0 then [2, 3] else if k = 1 then [3, 2, 2] else if k = 2 then [2, 4, 3] else if k = 3 then [1, 2, 2, 2] else if k = 4 then [2, 2] else [4, 3, 2]
abbrev CfgT : Type := List Int × Int × Int × Int × Int × Int × Int × Int × Int × Int × Int × Int × Int × Int × Int × Int × Int × Int × Bool × Int × Int × Int × Int × Int × Int × Int × Unit
def cfg (a b c d s : Int) : CfgT :=
  (wlist (a % 6), (a / 6) % 3, b % 4, (b / 4) % 2, (b / 8) % 4, (b / 32) % 3, [1008981770, 1036831949, 1065353216, 981668463].getD (c % 4).toNat 0, [0, 1063675494, 1056964608].getD (c / 4 % 3).toNat 0, [1065336439, 1063675494].getD (c / 12 % 2).toNat 0,
    [841731191, 981668463].getD (c / 24 % 2).toNat 0, [0, 1008981770].getD (c / 48 % 2).toNat 0, [0, 1065353216, 1036831949].getD (d % 3).toNat 0, (d / 3) % 4, (d / 3) % 4 + d % 17 + 1, (d / 9) % 4 + 1, (d / 36) % 2 + 1, s, [0, 536870912, 2147483647, 0].getD (c % 4).toNat 0, d % 5 == 0,
    b % 3 + c % (a % 25 + 1), b % 3, b % 3 + a % 25, b % 3 + 1, c % 2 + 1, d % 3 + 1, a % 4, ())
end Go.Proofs.Ytcpicekmnkjceaa.VI

namespace Go.Proofs.Ytcpicekmnkjceaa.VI
set_option linter.unusedVariables false
set_option linter.unusedSimpArgs false
set_option linter.unusedSimpArgs false
set_option linter.unusedVariables false
set_option maxRecDepth 100000
set_option maxHeartbeats 4000000
theorem in_eq (a b c : Int) : F_config_in a b c = some (decide (b ≤ a ∧ a ≤ c)) := by
  unfold F_config_in
  by_cases h : b ≤ a <;> simp [h]
theorem inr_eq (a b c : Int) : F_annealref24_in a b c = some (decide (b ≤ a ∧ a ≤ c)) := by
  unfold F_annealref24_in
  by_cases h : b ≤ a <;> simp [h]
theorem least_bad {P : Nat → Prop} [DecidablePred P] (n : Nat) : (∀ j, j < n → P j) ∨ ∃ k, k < n ∧ ¬ P k ∧ ∀ j, j < k → P j := by
  induction n with
  | zero => left; intro j hj; omega
  | succ n ih =>
    rcases ih with h | ⟨k, h1, h2, h3⟩
    · by_cases hn : P n
      · left; intro j hj
        by_cases e : j = n
        · subst e; exact hn
        · exact h j (by omega)
      · right; exact ⟨n, by omega, hn, h⟩
    · right; exact ⟨k, by omega, h2, h3⟩
def pr (w : List Int) : Nat → Int
  | 0 => 0
  | i + 1 => pr w i + (w.getD i 0 + 1) * w.getD (i + 1) 0
def wok (w : List Int) : Prop := 2 ≤ w.length ∧ w.length ≤ 65 ∧ ∀ j, j < w.length → 1 ≤ w.getD j 0 ∧ w.getD j 0 ≤ 4096
theorem mul_bd {a b : Int} (h : 1 ≤ a ∧ a ≤ 4096) (k : 1 ≤ b ∧ b ≤ 4096) : 0 ≤ (a + 1) * b ∧ (a + 1) * b ≤ 16781312 := by
  constructor
  · exact Int.mul_nonneg (by omega) (by omega)
  · have := Int.mul_le_mul (a := a + 1) (b := b) (c := 4097) (d := 4096) (by omega) k.2 (by omega) (by omega)
    omega
theorem pr_bd {w : List Int} {n : Nat} (h : ∀ j, j < n → 1 ≤ w.getD j 0 ∧ w.getD j 0 ≤ 4096) : ∀ i, i < n → 0 ≤ pr w i ∧ pr w i ≤ i * 16781312
  | 0, _ => by simp [pr]
  | i + 1, hi => by
    have := pr_bd h i (by omega)
    have k := mul_bd (h i (by omega)) (h (i + 1) hi)
    simp only [pr]; push_cast; omega
theorem getD_in {w : List Int} {i : Nat} (h : i < w.length) : (0 ≤ (i : Int) ∧ (i : Int) < (w.length : Int)) = True := by simp; omega
theorem ltI {i n : Nat} (h : i < n) : ((i : Int) < (n : Int)) = True := by simp; omega
theorem natnn (n : Nat) : ((0 : Int) ≤ (n : Int)) = True := by simp
theorem ltI' (n : Nat) : ((n : Int) < (n : Int)) = False := by simp
theorem params_step {w : List Int} (hl : w.length ≤ 65) {k : Nat} (hk : k ≤ w.length) (h : ∀ j, j < k → 1 ≤ w.getD j 0 ∧ w.getD j 0 ≤ 4096) {i : Nat} (hi : i < k) (R : Type) (kn ko) :
    st_config_params_0 R ((w, pr w (i - 1), w, (w.length : Int), (i : Int), ()), ()) kn ko = kn ((w, pr w (i + 1 - 1), w, (w.length : Int), ((i + 1 : Nat) : Int), ()), ()) := by
  have h1 : i < w.length := by omega
  have w1 : IntKind.i64.wrap ((i : Int) + 1) = (i : Int) + 1 := wi64 (by omega)
  have hh := h i hi
  simp only [st_config_params_0, ltI h1, getD_in h1, natnn, and_self, decide_true, cond_true, in_eq, Option.bind_some, List.take_length, Int.toNat_natCast, hh, Bool.not_true, cond_false, w1]
  cases i with
  | zero => simp [pr]
  | succ i =>
    have e : IntKind.i64.wrap (((i + 1 : Nat) : Int) - 1) = (i : Int) := (wi64 (by omega)).trans (by omega)
    have g : (((i + 1 : Nat) : Int) > 0) = True := by simp
    have bd := pr_bd h i (by omega)
    have k2 := mul_bd (h i (by omega)) hh
    have hh2 := h i (by omega)
    have e2 : IntKind.i64.wrap (w.getD i 0 + 1) = w.getD i 0 + 1 := wi64 (by omega)
    have e3 : IntKind.i64.wrap ((w.getD i 0 + 1) * w.getD (i + 1) 0) = (w.getD i 0 + 1) * w.getD (i + 1) 0 := wi64 (by omega)
    have e4 : IntKind.i64.wrap (pr w i + (w.getD i 0 + 1) * w.getD (i + 1) 0) = pr w i + (w.getD i 0 + 1) * w.getD (i + 1) 0 := wi64 (by omega)
    simp only [e, g, ltI (show i < w.length by omega), natnn, and_self, decide_true, cond_true, getD_in (show i < w.length by omega), Int.toNat_natCast, Nat.add_sub_cancel, e2, e3, e4, pr]
    rfl
theorem params_eq (w : List Int) : (wok w ∧ F_config_params w = some (pr w (w.length - 1), decide (pr w (w.length - 1) ≤ 65536), ())) ∨ (¬ wok w ∧ F_config_params w = some (0, false, ())) := by
  unfold F_config_params
  simp only [in_eq, Option.bind_some, bif_not, bif_dec, List.take_length]
  by_cases h0 : (2 : Int) ≤ (w.length : Int) ∧ (w.length : Int) ≤ 65
  · rw [if_pos h0]
    rcases least_bad (P := fun j => 1 ≤ w.getD j 0 ∧ w.getD j 0 ≤ 4096) w.length with h | ⟨k, h1, h2, h3⟩
    · left
      refine ⟨⟨by omega, by omega, h⟩, ?_⟩
      have := lim_seq (st := st_config_params_0) (fun i => ((w, pr w (i - 1), w, (w.length : Int), (i : Int), ()), ())) (b := Sum.inl ((pr w (w.length - 1), ()), ())) w.length (fun i hi R kn ko => params_step (by omega) (Nat.le_refl _) h hi R kn ko) (fun R kn ko => by
        simp only [st_config_params_0, ltI', decide_false, cond_false])
      simp only [pr, Nat.zero_sub, Int.natCast_zero] at this
      rw [this]; rfl
    · right
      refine ⟨fun hw => h2 (hw.2.2 k h1), ?_⟩
      have := lim_seq (st := st_config_params_0) (fun i => ((w, pr w (i - 1), w, (w.length : Int), (i : Int), ()), ())) (b := Sum.inr ((0, false, ()), ())) k (fun i hi R kn ko => params_step (by omega) (by omega) h3 hi R kn ko) (fun R kn ko => by
        have h2' : decide (1 ≤ w.getD k 0 ∧ w.getD k 0 ≤ 4096) = false := by simpa using h2
        simp only [st_config_params_0, ltI h1, getD_in h1, natnn, and_self, decide_true, cond_true, in_eq, Option.bind_some, List.take_length, Int.toNat_natCast, h2', Bool.not_false])
      simp only [pr, Nat.zero_sub, Int.natCast_zero] at this
      rw [this]; rfl
  · right
    rw [if_neg h0]
    exact ⟨fun hw => h0 ⟨by have := hw.1; omega, by have := hw.2.1; omega⟩, rfl⟩
theorem rparams_eq {w : List Int} (h : wok w) : F_annealref24_params w = some (pr w (w.length - 1)) := by
  obtain ⟨l1, l2, h⟩ := h
  unfold F_annealref24_params
  simp only [List.take_length]
  have := lim_seq (st := st_annealref24_params_0) (fun i => ((w, pr w i, (i : Int), ()), ())) (b := ((pr w (w.length - 1), ()), ())) (w.length - 1) (fun i hi R kn ko => by
    have w1 : IntKind.i64.wrap ((i : Int) + 1) = ((i + 1 : Nat) : Int) := by rw [wi64 (by omega)]; omega
    have h1 := h i (by omega)
    have h2 := h (i + 1) (by omega)
    have bd := pr_bd h i (by omega)
    have k2 := mul_bd h1 h2
    have e2 : IntKind.i64.wrap (w.getD i 0 + 1) = w.getD i 0 + 1 := wi64 (by omega)
    have e3 : IntKind.i64.wrap ((w.getD i 0 + 1) * w.getD (i + 1) 0) = (w.getD i 0 + 1) * w.getD (i + 1) 0 := wi64 (by omega)
    have e4 : IntKind.i64.wrap (pr w i + (w.getD i 0 + 1) * w.getD (i + 1) 0) = pr w i + (w.getD i 0 + 1) * w.getD (i + 1) 0 := wi64 (by omega)
    simp only [st_annealref24_params_0, w1, ltI (show i + 1 < w.length by omega), ltI (show i < w.length by omega), getD_in (show i < w.length by omega), getD_in (show i + 1 < w.length by omega), natnn, and_self, decide_true, cond_true, List.take_length, Int.toNat_natCast, e2, e3, e4, pr]) (fun R kn ko => by
    have w1 : IntKind.i64.wrap (((w.length - 1 : Nat) : Int) + 1) = (w.length : Int) := by rw [wi64 (by omega)]; omega
    simp only [st_annealref24_params_0, w1, ltI', decide_false, cond_false])
  simp only [pr, Int.natCast_zero] at this
  rw [this]; rfl
def mxTo (w : List Int) : Nat → Int
  | 0 => w.getD 0 0
  | i + 1 => max (mxTo w i) (w.getD (i + 1) 0)
theorem mxTo_le (w : List Int) (c : Int) : ∀ i, mxTo w i ≤ c ↔ ∀ j, j ≤ i → w.getD j 0 ≤ c
  | 0 => ⟨fun h j hj => by have : j = 0 := by omega
                           subst this; exact h, fun h => h 0 (Nat.le_refl _)⟩
  | i + 1 => by
    simp only [mxTo, Int.max_le, mxTo_le w c i]
    constructor
    · rintro ⟨h1, h2⟩ j hj
      by_cases e : j = i + 1
      · subst e; exact h2
      · exact h1 j (by omega)
    · intro h; exact ⟨fun j hj => h j (by omega), h _ (Nat.le_refl _)⟩
theorem mxTo_mem (w : List Int) : ∀ i, ∃ j, j ≤ i ∧ mxTo w i = w.getD j 0
  | 0 => ⟨0, Nat.le_refl _, rfl⟩
  | i + 1 => by
    obtain ⟨j, h1, h2⟩ := mxTo_mem w i
    simp only [mxTo]
    rcases Int.le_total (mxTo w i) (w.getD (i + 1) 0) with h | h
    · exact ⟨i + 1, Nat.le_refl _, by omega⟩
    · exact ⟨j, by omega, by omega⟩
theorem max_eq {w : List Int} (h : 1 ≤ w.length) (hl : w.length ≤ 1000) : F_slices_MaxLLJint_intJ w = some (mxTo w (w.length - 1)) := by
  unfold F_slices_MaxLLJint_intJ
  have h1 : ¬ ((w.length : Int) < 1) := by omega
  have h2 : (0 : Int) ≤ 0 ∧ (0 : Int) < (w.length : Int) := by omega
  rw [bif_dec, if_neg h1, bif_dec, if_pos h2]
  simp only [List.take_length]
  have := lim_seq (st := st_slices_MaxLLJint_intJ_0) (fun i => ((w, mxTo w i, ((i + 1 : Nat) : Int), ()), ())) (b := ((mxTo w (w.length - 1), ()), ())) (w.length - 1) (fun i hi R kn ko => by
    have w1 : IntKind.i64.wrap (((i + 1 : Nat) : Int) + 1) = ((i + 1 + 1 : Nat) : Int) := by rw [wi64 (by omega)]; omega
    simp only [st_slices_MaxLLJint_intJ_0, w1, ltI (show i + 1 < w.length by omega), getD_in (show i + 1 < w.length by omega), natnn, and_self, decide_true, cond_true, List.take_length, Int.toNat_natCast, mx_eq, mxTo]) (fun R kn ko => by
    have e : w.length - 1 + 1 = w.length := by omega
    simp only [st_slices_MaxLLJint_intJ_0, e, ltI', decide_false, cond_false])
  have e1 : ((0 + 1 : Nat) : Int) = 1 := rfl
  simp only [mxTo, e1] at this
  rw [this]; rfl
end Go.Proofs.Ytcpicekmnkjceaa.VI

namespace Go.Proofs.Ytcpicekmnkjceaa.VI
set_option linter.unusedVariables false
set_option linter.unusedSimpArgs false
set_option linter.unusedSimpArgs false
set_option linter.unusedVariables false
set_option maxRecDepth 100000
set_option maxHeartbeats 4000000
abbrev CfgT.w (c : CfgT) : List Int := c.1
abbrev CfgT.f (c : CfgT) : Int := c.2.1
abbrev CfgT.act (c : CfgT) : Int := c.2.2.1
abbrev CfgT.loss (c : CfgT) : Int := c.2.2.2.1
abbrev CfgT.opt (c : CfgT) : Int := c.2.2.2.2.1
abbrev CfgT.sched (c : CfgT) : Int := c.2.2.2.2.2.1
abbrev CfgT.rate (c : CfgT) : Int := c.2.2.2.2.2.2.1
abbrev CfgT.mu (c : CfgT) : Int := c.2.2.2.2.2.2.2.1
abbrev CfgT.beta (c : CfgT) : Int := c.2.2.2.2.2.2.2.2.1
abbrev CfgT.eps (c : CfgT) : Int := c.2.2.2.2.2.2.2.2.2.1
abbrev CfgT.decay (c : CfgT) : Int := c.2.2.2.2.2.2.2.2.2.2.1
abbrev CfgT.clip (c : CfgT) : Int := c.2.2.2.2.2.2.2.2.2.2.2.1
abbrev CfgT.warm (c : CfgT) : Int := c.2.2.2.2.2.2.2.2.2.2.2.2.1
abbrev CfgT.total (c : CfgT) : Int := c.2.2.2.2.2.2.2.2.2.2.2.2.2.1
abbrev CfgT.batch (c : CfgT) : Int := c.2.2.2.2.2.2.2.2.2.2.2.2.2.2.1
abbrev CfgT.accum (c : CfgT) : Int := c.2.2.2.2.2.2.2.2.2.2.2.2.2.2.2.1
abbrev CfgT.seed (c : CfgT) : Int := c.2.2.2.2.2.2.2.2.2.2.2.2.2.2.2.2.1
abbrev CfgT.drop (c : CfgT) : Int := c.2.2.2.2.2.2.2.2.2.2.2.2.2.2.2.2.2.1
abbrev CfgT.chance (c : CfgT) : Bool := c.2.2.2.2.2.2.2.2.2.2.2.2.2.2.2.2.2.2.1
abbrev CfgT.log (c : CfgT) : Int := c.2.2.2.2.2.2.2.2.2.2.2.2.2.2.2.2.2.2.2.1
abbrev CfgT.mi (c : CfgT) : Int := c.2.2.2.2.2.2.2.2.2.2.2.2.2.2.2.2.2.2.2.2.1
abbrev CfgT.ma (c : CfgT) : Int := c.2.2.2.2.2.2.2.2.2.2.2.2.2.2.2.2.2.2.2.2.2.1
abbrev CfgT.bk (c : CfgT) : Int := c.2.2.2.2.2.2.2.2.2.2.2.2.2.2.2.2.2.2.2.2.2.2.1
abbrev CfgT.gr (c : CfgT) : Int := c.2.2.2.2.2.2.2.2.2.2.2.2.2.2.2.2.2.2.2.2.2.2.2.1
abbrev CfgT.itv (c : CfgT) : Int := c.2.2.2.2.2.2.2.2.2.2.2.2.2.2.2.2.2.2.2.2.2.2.2.2.1
abbrev CfgT.save (c : CfgT) : Int := c.2.2.2.2.2.2.2.2.2.2.2.2.2.2.2.2.2.2.2.2.2.2.2.2.2.1
abbrev u32R (a : Int) : Prop := 0 ≤ a ∧ a < 4294967296
def cU (c : CfgT) : Prop := u32R c.rate ∧ u32R c.mu ∧ u32R c.beta ∧ u32R c.eps ∧ u32R c.decay ∧ u32R c.clip
def kindsP (c : CfgT) : Prop := (0 ≤ c.f ∧ c.f ≤ 2) ∧ (0 ≤ c.act ∧ c.act ≤ 3) ∧ (0 ≤ c.loss ∧ c.loss ≤ 1) ∧ (0 ≤ c.opt ∧ c.opt ≤ 3) ∧ (0 ≤ c.sched ∧ c.sched ≤ 2)
def numsP (c : CfgT) : Prop := c.rate < fInf ∧ c.mu < 1065353216 ∧ c.beta < 1065353216 ∧ (0 < c.eps ∧ c.eps < fInf) ∧ c.decay < fInf ∧ c.clip < fInf
def countsP (c : CfgT) : Prop := (1 ≤ c.total ∧ c.total ≤ 1073741824) ∧ (0 ≤ c.warm ∧ c.warm ≤ c.total) ∧ (1 ≤ c.batch ∧ c.batch ≤ 256) ∧ (1 ≤ c.accum ∧ c.accum ≤ 16) ∧ (0 ≤ c.ma ∧ c.ma ≤ 30) ∧ (0 ≤ c.mi ∧ c.mi ≤ c.ma) ∧ (c.mi ≤ c.log ∧ c.log ≤ c.ma) ∧ (1 ≤ c.bk ∧ c.bk ≤ 8) ∧ (1 ≤ c.gr ∧ c.gr ≤ 8) ∧ (1 ≤ c.itv ∧ c.itv ≤ 1073741824) ∧ (0 ≤ c.save ∧ c.save ≤ 1073741824) ∧ c.drop < 2147483648
def right (c : CfgT) : Prop := wok c.w ∧ pr c.w (c.w.length - 1) ≤ 65536 ∧ kindsP c ∧ numsP c ∧ countsP c ∧ ∀ j, j < c.w.length → c.batch * c.w.getD j 0 ≤ 262144
instance (c : CfgT) : Decidable (kindsP c) := inferInstanceAs (Decidable (_ ∧ _))
instance (c : CfgT) : Decidable (numsP c) := inferInstanceAs (Decidable (_ ∧ _))
instance (c : CfgT) : Decidable (countsP c) := inferInstanceAs (Decidable (_ ∧ _))
noncomputable instance (c : CfgT) : Decidable (right c) := Classical.propDecidable _
theorem bif_and {α : Type} {p : Prop} [Decidable p] {q : Prop} [Decidable q] {x : Option Bool} (h : p → x = some (decide q)) (hn : q → p) : (bif decide p then x else some false) = some (decide q) := by
  rw [bif_dec]
  split
  · rename_i hp; exact h hp
  · rename_i hp; exact some_f fun k => hp (hn k)
theorem bif_nand {α : Type} {p : Prop} [Decidable p] {q : Prop} [Decidable q] {x : Option Bool} (h : p → x = some (decide q)) (hn : q → p) : (bif !decide p then some false else x) = some (decide q) := by
  rw [bif_not]; exact bif_and (α := α) h hn
theorem kinds_eq (c : CfgT) : F_config_kinds c = some (decide (kindsP c)) := by
  unfold F_config_kinds
  simp only [in_eq, Option.bind_some]
  refine bif_and (α := Int) (fun h1 => bif_and (α := Int) (fun h2 => bif_and (α := Int) (fun h3 => bif_and (α := Int) (fun h4 => some_dec ?_) ?_) ?_) ?_) ?_
  · exact ⟨fun h => ⟨h1, h2, h3, h4, h⟩, fun h => h.2.2.2.2⟩
  all_goals unfold kindsP
  · exact fun h => h.2.2.2.1
  · exact fun h => h.2.2.1
  · exact fun h => h.2.1
  · exact fun h => h.1
theorem counts_eq (c : CfgT) : F_config_counts c = some (decide (countsP c)) := by
  unfold F_config_counts
  simp only [in_eq, Option.bind_some]
  refine bif_nand (α := Int) (fun h1 => bif_nand (α := Int) (fun h2 => bif_nand (α := Int) (fun h3 => bif_nand (α := Int) (fun h4 => bif_nand (α := Int) (fun h5 => bif_nand (α := Int) (fun h6 => bif_nand (α := Int) (fun h7 => bif_and (α := Int) (fun h8 => bif_and (α := Int) (fun h9 => bif_and (α := Int) (fun h10 => bif_and (α := Int) (fun h11 => some_dec ?_) ?_) ?_) ?_) ?_) ?_) ?_) ?_) ?_) ?_) ?_) ?_
  · exact ⟨fun h => ⟨h1, h2, h3, h4, h5, h6, h7, h8, h9, h10, h11, h⟩, fun h => h.2.2.2.2.2.2.2.2.2.2.2⟩
  all_goals unfold countsP
  · exact fun h => h.2.2.2.2.2.2.2.2.2.2.1
  · exact fun h => h.2.2.2.2.2.2.2.2.2.1
  · exact fun h => h.2.2.2.2.2.2.2.2.1
  · exact fun h => h.2.2.2.2.2.2.2.1
  · exact fun h => h.2.2.2.2.2.2.1
  · exact fun h => h.2.2.2.2.2.1
  · exact fun h => h.2.2.2.2.1
  · exact fun h => h.2.2.2.1
  · exact fun h => h.2.2.1
  · exact fun h => h.2.1
  · exact fun h => h.1
theorem numbers_eq {c : CfgT} (h : cU c) : F_config_numbers c = some (decide (numsP c)) := by
  obtain ⟨u1, u2, u3, u4, u5, u6⟩ := h
  unfold F_config_numbers
  simp only [List.getD_cons_zero, List.getD_cons_succ, pos_eq u1.1 u1.2, pos_eq u2.1 u2.2, pos_eq u3.1 u3.2, pos_eq u4.1 u4.2, pos_eq u5.1 u5.2, pos_eq u6.1 u6.2, Option.bind_some]
  refine bif_nand (α := Int) (fun h1 => bif_nand (α := Int) (fun h2 => bif_nand (α := Int) (fun h3 => bif_nand (α := Int) (fun h4 => bif_nand (α := Int) (fun h5 => bif_nand (α := Int) (fun h6 => ?_) ?_) ?_) ?_) ?_) ?_) ?_
  · rw [above_eq (by omega) (by unfold fInf; omega) u2.1 h2, above_eq (by omega) (by unfold fInf; omega) u3.1 h3, above_eq u4.1 h4 (by omega) (by unfold fInf; omega)]
    simp only [Option.bind_some]
    refine bif_and (α := Int) (fun k1 => bif_and (α := Int) (fun k2 => some_dec ?_) ?_) ?_
    · exact ⟨fun k => ⟨h1, k1, k2, ⟨k, h4⟩, h5, h6⟩, fun h => h.2.2.2.1.1⟩
    · exact fun h => h.2.2.1
    · exact fun h => h.2.1
  all_goals unfold numsP fInf
  all_goals omega
theorem bat {w : List Int} {B : Int} (hw : wok w) (hb : 1 ≤ B ∧ B ≤ 256) : (0 ≤ B * mxTo w (w.length - 1) ∧ B * mxTo w (w.length - 1) ≤ 1048576) ∧ (B * mxTo w (w.length - 1) ≤ 262144 ↔ ∀ j, j < w.length → B * w.getD j 0 ≤ 262144) := by
  obtain ⟨l1, l2, hw⟩ := hw
  obtain ⟨j, j1, j2⟩ := mxTo_mem w (w.length - 1)
  have hj := hw j (by omega)
  have m1 := Int.mul_le_mul (a := B) (b := mxTo w (w.length - 1)) (c := 256) (d := 4096) hb.2 (by omega) (by omega) (by omega)
  have m2 : 0 ≤ B * mxTo w (w.length - 1) := Int.mul_nonneg (by omega) (by omega)
  refine ⟨⟨m2, by omega⟩, fun h i hi => ?_, fun h => ?_⟩
  · have := (mxTo_le w (mxTo w (w.length - 1)) (w.length - 1)).1 (Int.le_refl _) i (by omega)
    have := Int.mul_le_mul_of_nonneg_left this (show 0 ≤ B by omega)
    omega
  · rw [j2]; exact h j (by omega)
theorem check_eq {c : CfgT} (h : cU c) : F_config_Check c = some (if right c then 0 else 24) := by
  unfold F_config_Check
  simp only [List.take_length, eta2]
  rcases params_eq c.1 with ⟨hw, e⟩ | ⟨hw, e⟩
  · rw [e]
    simp only [Option.bind_some, kinds_eq, numbers_eq h, counts_eq, bif_not, bif_dec]
    by_cases h1 : pr c.1 (c.1.length - 1) ≤ 65536
    case neg => rw [if_neg h1, if_neg fun k => h1 k.2.1]
    rw [if_pos h1]
    by_cases h2 : kindsP c
    case neg => rw [if_neg h2, if_neg fun k => h2 k.2.2.1]
    rw [if_pos h2]
    by_cases h3 : numsP c
    case neg => rw [if_neg h3, if_neg fun k => h3 k.2.2.2.1]
    rw [if_pos h3]
    by_cases h4 : countsP c
    case neg => rw [if_neg h4, if_neg fun k => h4 k.2.2.2.2.1]
    rw [if_pos h4, max_eq (by have := hw.1; omega) (by have := hw.2.1; omega)]
    obtain ⟨⟨m1, m2⟩, m3⟩ := bat (B := c.2.2.2.2.2.2.2.2.2.2.2.2.2.2.1) hw h4.2.2.1
    rw [Option.bind_some, wi64 (by omega)]
    by_cases h5 : c.2.2.2.2.2.2.2.2.2.2.2.2.2.2.1 * mxTo c.1 (c.1.length - 1) ≤ 262144
    · rw [if_neg (by omega), if_pos ⟨hw, h1, h2, h3, h4, m3.1 h5⟩]
    · rw [if_pos (by omega), if_neg fun k => h5 (m3.2 k.2.2.2.2.2)]
  · rw [e, if_neg fun k => hw k.1]; rfl
theorem cparams_eq {c : CfgT} (h : cU c) : F_config_Params c = some (if right c then pr c.w (c.w.length - 1) else 0) := by
  unfold F_config_Params
  simp only [List.take_length, eta2, check_eq h, Option.bind_some, bif_ne]
  by_cases hr : right c
  · rw [if_pos hr, if_pos hr, if_pos rfl]
    rcases params_eq c.1 with ⟨hw, e⟩ | ⟨hw, e⟩
    · rw [e]; rfl
    · exact absurd hr.1 hw
  · rw [if_neg hr, if_neg hr, if_neg (by decide)]
end Go.Proofs.Ytcpicekmnkjceaa.VI

namespace Go.Proofs.Ytcpicekmnkjceaa.VI
set_option linter.unusedVariables false
set_option linter.unusedSimpArgs false
set_option linter.unusedSimpArgs false
set_option linter.unusedVariables false
set_option maxRecDepth 100000
set_option maxHeartbeats 4000000
theorem bif_c {p : Prop} [Decidable p] {q : Prop} [Decidable q] {x : Option Int} (h : p → x = some (if q then 0 else 24)) (hn : q → p) : (bif decide p then x else some 24) = some (if q then (0 : Int) else 24) := by
  rw [bif_dec]
  split
  · rename_i hp; exact h hp
  · rename_i hp; rw [if_neg fun k => hp (hn k)]
theorem bif_nc {p : Prop} [Decidable p] {q : Prop} [Decidable q] {x : Option Int} (h : p → x = some (if q then 0 else 24)) (hn : q → p) : (bif !decide p then some 24 else x) = some (if q then (0 : Int) else 24) := by
  rw [bif_not]; exact bif_c h hn
def wP (c : CfgT) (j : Nat) : Prop := (1 ≤ c.1.getD j 0 ∧ c.1.getD j 0 ≤ 4096) ∧ (1 ≤ c.batch ∧ c.batch ≤ 256) ∧ c.batch * c.1.getD j 0 ≤ 262144
instance (c : CfgT) : DecidablePred (wP c) := fun j => inferInstanceAs (Decidable (_ ∧ _))
theorem mulB {a b : Int} (h : 1 ≤ a ∧ a ≤ 256) (k : 1 ≤ b ∧ b ≤ 4096) : IntKind.i64.wrap (a * b) = a * b := by
  have m1 := Int.mul_le_mul (a := a) (b := b) (c := 256) (d := 4096) h.2 k.2 (by omega) (by omega)
  have m2 : 0 ≤ a * b := Int.mul_nonneg (by omega) (by omega)
  exact wi64 (by omega)
theorem rcheck_step {c : CfgT} (hl : c.1.length ≤ 65) {i : Nat} (hi : i < c.1.length) (h : wP c i) (R : Type) (kn ko) :
    st_annealref24_Check_0 R (((i : Int), ()), (c, ())) kn ko = kn ((((i + 1 : Nat) : Int), ()), (c, ())) := by
  obtain ⟨h1, h2, h3⟩ := h
  have w1 : IntKind.i64.wrap ((i : Int) + 1) = ((i + 1 : Nat) : Int) := by rw [wi64 (by omega)]; omega
  have w2 := mulB h2 h1
  simp only [CfgT.batch] at h2 h3 w2
  have h3' : ¬ (c.2.2.2.2.2.2.2.2.2.2.2.2.2.2.1 * c.1.getD i 0 > 262144) := by omega
  simp only [st_annealref24_Check_0, ltI hi, natnn, and_self, decide_true, cond_true, inr_eq, Option.bind_some, List.take_length, Int.toNat_natCast, h1, h2, w2, h3', Bool.not_true, cond_false, decide_false, w1, eta2]
theorem rcheck_bad {c : CfgT} {i : Nat} (hi : i < c.1.length) (h : ¬ wP c i) (R : Type) (kn ko) :
    st_annealref24_Check_0 R (((i : Int), ()), (c, ())) kn ko = ko (Sum.inr ((24, ()), ())) := by
  simp only [st_annealref24_Check_0, ltI hi, natnn, and_self, decide_true, cond_true, inr_eq, Option.bind_some, List.take_length, Int.toNat_natCast, bif_not, bif_dec]
  by_cases h1 : 1 ≤ c.1.getD i 0 ∧ c.1.getD i 0 ≤ 4096
  case neg => rw [if_neg h1]
  rw [if_pos h1]
  by_cases h2 : 1 ≤ c.2.2.2.2.2.2.2.2.2.2.2.2.2.2.1 ∧ c.2.2.2.2.2.2.2.2.2.2.2.2.2.2.1 ≤ 256
  case neg => rw [if_neg h2]
  rw [if_pos h2]
  have : ¬ (c.2.2.2.2.2.2.2.2.2.2.2.2.2.2.1 * c.1.getD i 0 ≤ 262144) := fun k => h ⟨h1, h2, k⟩
  exact if_pos (by rw [mulB h2 h1]; omega)
theorem rcheck_eq {c : CfgT} (h : cU c) : F_annealref24_Check c = some (if right c then 0 else 24) := by
  unfold F_annealref24_Check
  simp only [List.take_length, eta2, inr_eq, Option.bind_some]
  refine bif_nc (fun h0 => ?_) fun k => ⟨by have := k.1.1; exact Int.ofNat_le.2 this, by have := k.1.2.1; exact Int.ofNat_le.2 this⟩
  rcases least_bad (P := wP c) c.1.length with hp | ⟨k, h1, h2, h3⟩
  · have := lim_seq (st := st_annealref24_Check_0) (fun i => (((i : Int), ()), (c, ()))) (b := Sum.inl ((), (c, ()))) c.1.length (fun i hi R kn ko => rcheck_step (by omega) hi (hp i hi) R kn ko) (fun R kn ko => by
      simp only [st_annealref24_Check_0, ltI', decide_false, cond_false, List.take_length, eta2])
    simp only [Int.natCast_zero] at this
    rw [this]
    have hw : wok c.1 := ⟨by omega, by omega, fun j hj => (hp j hj).1⟩
    have hb := (hp 0 (by omega)).2.1
    have hm : ∀ j, j < c.w.length → c.batch * c.w.getD j 0 ≤ 262144 := fun j hj => (hp j hj).2.2
    simp only [Option.bind_some, els]
    obtain ⟨u1, u2, u3, u4, u5, u6⟩ := h
    simp only [List.getD_cons_zero, List.getD_cons_succ, plus_eq u1.1 u1.2, plus_eq u2.1 u2.2, plus_eq u3.1 u3.2, plus_eq u4.1 u4.2, plus_eq u5.1 u5.2, plus_eq u6.1 u6.2, Option.bind_some, rparams_eq hw, inr_eq, List.take_length]
    refine bif_nc (fun q1 => bif_nc (fun q2 => bif_nc (fun q3 => bif_nc (fun q4 => bif_nc (fun q5 => bif_nc (fun q6 => bif_c (fun q7 => ?_) ?_) ?_) ?_) ?_) ?_) ?_) ?_
    · refine bif_c (fun a1 => bif_c (fun a2 => bif_c (fun a3 => bif_c (fun a4 => bif_c (fun a5 => bif_c (fun a6 => bif_c (fun a7 => bif_c (fun a8 => ?_) ?_) ?_) ?_) ?_) ?_) ?_) ?_) ?_
      · refine bif_c (fun b1 => bif_c (fun b2 => bif_c (fun b3 => bif_c (fun b4 => bif_c (fun b5 => bif_c (fun b6 => bif_c (fun b7 => bif_c (fun b8 => bif_c (fun b9 => bif_c (fun b10 => bif_c (fun b11 => bif_nc (fun b12 => ?_) ?_) ?_) ?_) ?_) ?_) ?_) ?_) ?_) ?_) ?_) ?_) ?_
        · rw [if_pos]
          refine ⟨hw, q7, ⟨a1, a2, a3, a4, a5⟩, ⟨q1, a6, a7, ⟨a8, q4⟩, q5, q6⟩, ⟨b1, b2, b3, b4, ⟨?_, b6⟩, ⟨b5, ?_⟩, b7, b8, b9, b10, b11, b12⟩, hm⟩
          · simp only [CfgT.ma] at *; omega
          · simp only [CfgT.ma, CfgT.mi] at *; omega
        · exact fun k => k.2.2.2.2.1.2.2.2.2.2.2.2.2.2.2.2
        · exact fun k => k.2.2.2.2.1.2.2.2.2.2.2.2.2.2.2.1
        · exact fun k => k.2.2.2.2.1.2.2.2.2.2.2.2.2.2.1
        · exact fun k => k.2.2.2.2.1.2.2.2.2.2.2.2.2.1
        · exact fun k => k.2.2.2.2.1.2.2.2.2.2.2.2.1
        · exact fun k => k.2.2.2.2.1.2.2.2.2.2.2.1
        · exact fun k => k.2.2.2.2.1.2.2.2.2.1.2
        · exact fun k => k.2.2.2.2.1.2.2.2.2.2.1.1
        · exact fun k => k.2.2.2.2.1.2.2.2.1
        · exact fun k => k.2.2.2.2.1.2.2.1
        · exact fun k => k.2.2.2.2.1.2.1
        · exact fun k => k.2.2.2.2.1.1
      · exact fun k => k.2.2.2.1.2.2.2.1.1
      · exact fun k => k.2.2.2.1.2.2.1
      · exact fun k => k.2.2.2.1.2.1
      · exact fun k => k.2.2.1.2.2.2.2
      · exact fun k => k.2.2.1.2.2.2.1
      · exact fun k => k.2.2.1.2.2.1
      · exact fun k => k.2.2.1.2.1
      · exact fun k => k.2.2.1.1
    · exact fun k => k.2.1
    · exact fun k => k.2.2.2.1.2.2.2.2.2
    · exact fun k => k.2.2.2.1.2.2.2.2.1
    · exact fun k => k.2.2.2.1.2.2.2.1.2
    · exact fun k => Int.lt_trans k.2.2.2.1.2.2.1 (by decide)
    · exact fun k => Int.lt_trans k.2.2.2.1.2.1 (by decide)
    · exact fun k => k.2.2.2.1.1
  · have := lim_seq (st := st_annealref24_Check_0) (fun i => (((i : Int), ()), (c, ()))) (b := Sum.inr ((24, ()), ())) k (fun i hi R kn ko => rcheck_step (by omega) (by omega) (h3 i hi) R kn ko) (fun R kn ko => rcheck_bad h1 h2 R kn ko)
    simp only [Int.natCast_zero] at this
    rw [this, if_neg]
    · rfl
    · intro hr
      exact h2 ⟨hr.1.2.2 k h1, hr.2.2.2.2.1.2.2.1, hr.2.2.2.2.2 k h1⟩
theorem rcparams_eq {c : CfgT} (h : cU c) : F_annealref24_Params c = some (if right c then pr c.w (c.w.length - 1) else 0) := by
  unfold F_annealref24_Params
  simp only [List.take_length, eta2, rcheck_eq h, Option.bind_some, bif_ne]
  by_cases hr : right c
  · rw [if_pos hr, if_pos hr, if_pos rfl, rparams_eq hr.1]; rfl
  · rw [if_neg hr, if_neg hr, if_neg (by decide)]
end Go.Proofs.Ytcpicekmnkjceaa.VI

namespace Go.Proofs.Ytcpicekmnkjceaa.VI
set_option linter.unusedVariables false
set_option linter.unusedSimpArgs false
set_option maxRecDepth 100000
set_option linter.unusedSimpArgs false
set_option linter.unusedVariables false
noncomputable def O_config_Put : Orc := (orm c_config_Check (orm c_config_lay c_config_flag))
theorem okO_config_Put : OrcOk PR O_config_Put := (orm_ok ok_config_Check (orm_ok ok_config_lay ok_config_flag))
abbrev fa_config_Put : Fm := (.pair (.agg (.pair (.si .i64) (.pair (.i .i64) (.pair (.i .i64) (.pair (.i .i64) (.pair (.i .i64) (.pair (.i .i64) (.pair (.i .u32) (.pair (.i .u32) (.pair (.i .u32) (.pair (.i .u32) (.pair (.i .u32) (.pair (.i .u32) (.pair (.i .i64) (.pair (.i .i64) (.pair (.i .i64) (.pair (.i .i64) (.pair (.i .u64) (.pair (.i .u32) (.pair .b (.pair (.i .i64) (.pair (.i .i64) (.pair (.i .i64) (.pair (.i .i64) (.pair (.i .i64) (.pair (.i .i64) (.pair (.i .i64) .unit))))))))))))))))))))))))))) .unit)
abbrev ha_config_Put : List BF := []
abbrev fr_config_Put : Fm := (.tup (.pair (.si .u8) (.pair (.i .i64) .unit)))
abbrev hr_config_Put : List BF := []
abbrev ff_config_Put_0 : Fm := (.us 1 (.cst (.ref 0 1 0) (.us 3 (.pair (.own 1 1 0 1) (.us 22 (.pair (.si .i64) (.pair (.i .i64) (.pair (.i .i64) (.us 105 .unit)))))))))
abbrev hf_config_Put_0 : List BF := [(.list 1 y_api_Config true (.pair (.si .i64) (.pair (.i .i64) (.pair (.i .i64) (.pair (.i .i64) (.pair (.i .i64) (.pair (.i .i64) (.pair (.i .u32) (.pair (.i .u32) (.pair (.i .u32) (.pair (.i .u32) (.pair (.i .u32) (.pair (.i .u32) (.pair (.i .i64) (.pair (.i .i64) (.pair (.i .i64) (.pair (.i .i64) (.pair (.i .u64) (.pair (.i .u32) (.pair .b (.pair (.i .i64) (.pair (.i .i64) (.pair (.i .i64) (.pair (.i .i64) (.pair (.i .i64) (.pair (.i .i64) (.pair (.i .i64) .unit))))))))))))))))))))))))))), (.ints 1 y_uint8 true .u8)]
abbrev X_config_Put_0 : Xs := (.one (.exit 0) [1, 5] (.us 1 (.cst (.ref 0 1 0) (.us 3 (.pair (.own 1 1 0 1) (.us 130 .unit))))) [(.list 1 y_api_Config true (.pair (.si .i64) (.pair (.i .i64) (.pair (.i .i64) (.pair (.i .i64) (.pair (.i .i64) (.pair (.i .i64) (.pair (.i .u32) (.pair (.i .u32) (.pair (.i .u32) (.pair (.i .u32) (.pair (.i .u32) (.pair (.i .u32) (.pair (.i .i64) (.pair (.i .i64) (.pair (.i .i64) (.pair (.i .i64) (.pair (.i .u64) (.pair (.i .u32) (.pair .b (.pair (.i .i64) (.pair (.i .i64) (.pair (.i .i64) (.pair (.i .i64) (.pair (.i .i64) (.pair (.i .i64) (.pair (.i .i64) .unit))))))))))))))))))))))))))), (.ints 1 y_uint8 true .u8)])
abbrev S_config_Put_0 : Type := T ff_config_Put_0 × TH hf_config_Put_0
abbrev E_config_Put_0 : Type := TX X_config_Put_0
noncomputable def LB_config_Put_0 : Lps := L0
noncomputable def st_config_Put_0 : StepT S_config_Put_0 E_config_Put_0 := fun R v kn ko =>
  let x0 : Nat := v.1.1
  let x1 : List Int := v.1.2.1
  let x2 : Int := v.1.2.2.2.1
  let x3 : List Int := v.2.1.1
  bif (decide (x2 < v.1.2.2.1)) then
    bif (decide (((0:Int) ≤ x2) ∧ (x2 < (((List.length x1) : Nat) : Int)))) then
      ((F_config_lay x0 (IntKind.wrap .u64 (List.getD x1 (Int.toNat x2) (0:Int))) (2:Int) v.2.2.1)).bind fun r4 =>
      (kn ((r4.1, ((List.take (List.length x1) x1), (v.1.2.2.1, ((IntKind.wrap .i64 (x2 + (1:Int))), ())))), (((List.take (List.length x3) x3), v.2.1.2), r4.2)))
    else
      none
  else
    (ko ((x0, ()), (((List.take (List.length x3) x3), v.2.1.2), v.2.2)))
noncomputable def ls_config_Put_0 : St → LTr := (lsum ff_config_Put_0 hf_config_Put_0 X_config_Put_0 Prod.mk id st_config_Put_0 (hd [] [] [1, 5, 28, 29, 30] 0))
theorem lp_config_Put_0 : LoopOk PR 0 (lpN f_config_Put 0) ls_config_Put_0 := loopT okO_config_Put mixed (L := LB_config_Put_0) (d := 1) (bs := []) (ks := [1, 5, 28, 29, 30]) (loopsL (l := []) (by kernel_rfl) trivial) (by kernel_rfl) (inS := Prod.mk) (outS := id) (fun _ _ => rfl) (inX := id) (outX := id) (fun _ => rfl) (fun v R kn ko => by kernel_rfl) (hd_wk [] [] [1, 5, 28, 29, 30] 0)
noncomputable def L_config_Put : Lps := (lpB 23 (.un 6 [1, 5, 120, 121, 122]) (lpB 17 (.un 12 [1, 5, 90, 91, 92]) (lpB 12 (.un 7 [1, 5, 52, 53, 54]) (lpB 7 (.by_ ls_config_Put_0) L0))))
def inn_config_Put : T fr_config_Put → TH hr_config_Put → List Int × Int × Unit := (fun z w => z)
def out_config_Put : List Int × Int × Unit → T fr_config_Put × TH hr_config_Put := fun r => (r, ())
noncomputable def F_config_Put (a0 : List Int × Int × Int × Int × Int × Int × Int × Int × Int × Int × Int × Int × Int × Int × Int × Int × Int × Int × Bool × Int × Int × Int × Int × Int × Int × Int × Unit) : Option (List Int × Int × Unit) :=
  let x0 : List Int := (List.take (List.length a0.1) a0.1)
  let x1 : Int := (((List.length a0.1) : Nat) : Int)
  ((F_config_Check (x0, a0.2))).bind fun r2 =>
  bif (r2 != (0:Int)) then
    (some ([], (r2, ())))
  else
    ((lim st_config_Put_0 (((9:Nat), (x0, (x1, ((0:Int), ())))), ((x0, a0.2), ([(65:Int), (78:Int), (78:Int), (69:Int), (65:Int), (76:Int), (49:Int), (0:Int), (IntKind.wrap .u8 x1)], ()))))).bind fun r3 =>
    let x4 : Nat := r3.1.1
    let x5 : Nat := (x4 + (1:Nat))
    let x6 : Nat := (x5 + (1:Nat))
    let x7 : Nat := (x6 + (1:Nat))
    let x8 : Nat := (x7 + (1:Nat))
    let x9 : Nat := (x8 + (1:Nat))
    let x10 : List Int := [r3.2.1.2.2.2.2.2.2.1, r3.2.1.2.2.2.2.2.2.2.1, r3.2.1.2.2.2.2.2.2.2.2.1, r3.2.1.2.2.2.2.2.2.2.2.2.1, r3.2.1.2.2.2.2.2.2.2.2.2.2.1, r3.2.1.2.2.2.2.2.2.2.2.2.2.2.1, r3.2.1.2.2.2.2.2.2.2.2.2.2.2.2.2.2.2.2.2.1, (IntKind.wrap .u32 r3.2.1.2.2.2.2.2.2.2.2.2.2.2.2.1), (IntKind.wrap .u32 r3.2.1.2.2.2.2.2.2.2.2.2.2.2.2.2.1), (IntKind.wrap .u32 r3.2.1.2.2.2.2.2.2.2.2.2.2.2.2.2.2.2.2.2.2.2.2.2.2.2.2.1), (IntKind.wrap .u32 r3.2.1.2.2.2.2.2.2.2.2.2.2.2.2.2.2.2.2.2.2.2.2.2.2.2.2.2.1)]
    let x11 : List Int := [r3.2.1.2.2.2.2.2.2.2.2.2.2.2.2.2.2.2.2.2.2.2.1, r3.2.1.2.2.2.2.2.2.2.2.2.2.2.2.2.2.2.2.2.2.2.2.1, r3.2.1.2.2.2.2.2.2.2.2.2.2.2.2.2.2.2.2.2.2.2.2.2.1, r3.2.1.2.2.2.2.2.2.2.2.2.2.2.2.2.2.2.2.2.2.2.2.2.2.1, r3.2.1.2.2.2.2.2.2.2.2.2.2.2.2.2.2.2.2.2.2.2.2.2.2.2.1]
    ((F_config_flag r3.2.1.2.2.2.2.2.2.2.2.2.2.2.2.2.2.2.2.2.2.1)).bind fun r12 =>
    let x13 : List Int := [r3.2.1.2.1, r3.2.1.2.2.1, r3.2.1.2.2.2.1, r3.2.1.2.2.2.2.1, r3.2.1.2.2.2.2.2.1, r12]
    bif (decide (x5 ≤ (1073741824:Nat))) then
      bif (decide (x6 ≤ (1073741824:Nat))) then
        bif (decide (x7 ≤ (1073741824:Nat))) then
          bif (decide (x8 ≤ (1073741824:Nat))) then
            bif (decide (x9 ≤ (1073741824:Nat))) then
              bif (decide ((x9 + (1:Nat)) ≤ (1073741824:Nat))) then
                ((F_config_lay (x9 + (1:Nat)) (IntKind.wrap .u64 (List.getD x10 (0:Nat) (0:Int))) (4:Int) ((List.take x9 ((List.take x8 ((List.take x7 ((List.take x6 ((List.take x5 ((List.take x4 r3.2.2.1) ++ [(IntKind.wrap .u8 (List.getD x13 (0:Nat) (0:Int)))])) ++ [(IntKind.wrap .u8 (List.getD x13 (1:Nat) (0:Int)))])) ++ [(IntKind.wrap .u8 (List.getD x13 (2:Nat) (0:Int)))])) ++ [(IntKind.wrap .u8 (List.getD x13 (3:Nat) (0:Int)))])) ++ [(IntKind.wrap .u8 (List.getD x13 (4:Nat) (0:Int)))])) ++ [(IntKind.wrap .u8 (List.getD x13 (5:Nat) (0:Int)))]))).bind fun r14 =>
                ((F_config_lay r14.1 (IntKind.wrap .u64 (List.getD x10 (1:Nat) (0:Int))) (4:Int) r14.2.1)).bind fun r15 =>
                ((F_config_lay r15.1 (IntKind.wrap .u64 (List.getD x10 (2:Nat) (0:Int))) (4:Int) r15.2.1)).bind fun r16 =>
                ((F_config_lay r16.1 (IntKind.wrap .u64 (List.getD x10 (3:Nat) (0:Int))) (4:Int) r16.2.1)).bind fun r17 =>
                ((F_config_lay r17.1 (IntKind.wrap .u64 (List.getD x10 (4:Nat) (0:Int))) (4:Int) r17.2.1)).bind fun r18 =>
                ((F_config_lay r18.1 (IntKind.wrap .u64 (List.getD x10 (5:Nat) (0:Int))) (4:Int) r18.2.1)).bind fun r19 =>
                ((F_config_lay r19.1 (IntKind.wrap .u64 (List.getD x10 (6:Nat) (0:Int))) (4:Int) r19.2.1)).bind fun r20 =>
                ((F_config_lay r20.1 (IntKind.wrap .u64 (List.getD x10 (7:Nat) (0:Int))) (4:Int) r20.2.1)).bind fun r21 =>
                ((F_config_lay r21.1 (IntKind.wrap .u64 (List.getD x10 (8:Nat) (0:Int))) (4:Int) r21.2.1)).bind fun r22 =>
                ((F_config_lay r22.1 (IntKind.wrap .u64 (List.getD x10 (9:Nat) (0:Int))) (4:Int) r22.2.1)).bind fun r23 =>
                ((F_config_lay r23.1 (IntKind.wrap .u64 (List.getD x10 (10:Nat) (0:Int))) (4:Int) r23.2.1)).bind fun r24 =>
                ((F_config_lay r24.1 (IntKind.wrap .u64 r3.2.1.2.2.2.2.2.2.2.2.2.2.2.2.2.2.1) (2:Int) r24.2.1)).bind fun r25 =>
                ((F_config_lay r25.1 (IntKind.wrap .u64 r3.2.1.2.2.2.2.2.2.2.2.2.2.2.2.2.2.2.1) (2:Int) r25.2.1)).bind fun r26 =>
                let x27 : Nat := (r26.1 + (1:Nat))
                let x28 : Nat := (x27 + (1:Nat))
                let x29 : Nat := (x28 + (1:Nat))
                let x30 : Nat := (x29 + (1:Nat))
                bif (decide (x27 ≤ (1073741824:Nat))) then
                  bif (decide (x28 ≤ (1073741824:Nat))) then
                    bif (decide (x29 ≤ (1073741824:Nat))) then
                      bif (decide (x30 ≤ (1073741824:Nat))) then
                        bif (decide ((x30 + (1:Nat)) ≤ (1073741824:Nat))) then
                          ((F_config_lay (x30 + (1:Nat)) r3.2.1.2.2.2.2.2.2.2.2.2.2.2.2.2.2.2.2.1 (8:Int) ((List.take x30 ((List.take x29 ((List.take x28 ((List.take x27 ((List.take r26.1 r26.2.1) ++ [(IntKind.wrap .u8 (List.getD x11 (0:Nat) (0:Int)))])) ++ [(IntKind.wrap .u8 (List.getD x11 (1:Nat) (0:Int)))])) ++ [(IntKind.wrap .u8 (List.getD x11 (2:Nat) (0:Int)))])) ++ [(IntKind.wrap .u8 (List.getD x11 (3:Nat) (0:Int)))])) ++ [(IntKind.wrap .u8 (List.getD x11 (4:Nat) (0:Int)))]))).bind fun r31 =>
                          (some ((List.take r31.1 (List.drop (0:Nat) r31.2.1)), ((0:Int), ())))
                        else
                          none
                      else
                        none
                    else
                      none
                  else
                    none
                else
                  none
              else
                none
            else
              none
          else
            none
        else
          none
      else
        none
    else
      none
noncomputable def G_config_Put : T fa_config_Put → TH ha_config_Put → Option (List Int × Int × Unit) := fun x y => F_config_Put x.1
noncomputable def c_config_Put : Orc := ent i_config_Put [] 0 (sp fa_config_Put ha_config_Put fr_config_Put hr_config_Put G_config_Put out_config_Put)
theorem ok_config_Put : OrcOk PR c_config_Put := fnT okO_config_Put mixed p_config_Put (by kernel_rfl) (by kernel_rfl) (L := L_config_Put) (kp := false) (by kernel_rfl) (inn := inn_config_Put) (out := out_config_Put) (fun _ _ => rfl) (loopsL (l := [((lpN f_config_Put 0), ls_config_Put_0)]) (by kernel_rfl) ⟨lp_config_Put_0, trivial⟩) (fun x y => by kernel_rfl)
end Go.Proofs.Ytcpicekmnkjceaa.VI

namespace Go.Proofs.Ytcpicekmnkjceaa.VI
set_option linter.unusedVariables false
set_option linter.unusedSimpArgs false
set_option maxRecDepth 100000
set_option linter.unusedSimpArgs false
set_option linter.unusedVariables false
noncomputable def O_annealref24_Put : Orc := (orm c_annealref24_Check c_annealref24_put)
theorem okO_annealref24_Put : OrcOk PR O_annealref24_Put := (orm_ok ok_annealref24_Check ok_annealref24_put)
abbrev fa_annealref24_Put : Fm := (.pair (.agg (.pair (.si .i64) (.pair (.i .i64) (.pair (.i .i64) (.pair (.i .i64) (.pair (.i .i64) (.pair (.i .i64) (.pair (.i .u32) (.pair (.i .u32) (.pair (.i .u32) (.pair (.i .u32) (.pair (.i .u32) (.pair (.i .u32) (.pair (.i .i64) (.pair (.i .i64) (.pair (.i .i64) (.pair (.i .i64) (.pair (.i .u64) (.pair (.i .u32) (.pair .b (.pair (.i .i64) (.pair (.i .i64) (.pair (.i .i64) (.pair (.i .i64) (.pair (.i .i64) (.pair (.i .i64) (.pair (.i .i64) .unit))))))))))))))))))))))))))) .unit)
abbrev ha_annealref24_Put : List BF := []
abbrev fr_annealref24_Put : Fm := (.tup (.pair (.si .u8) (.pair (.i .i64) .unit)))
abbrev hr_annealref24_Put : List BF := []
abbrev ff_annealref24_Put_0 : Fm := (.us 1 (.cst (.ref 0 1 0) (.us 3 (.pair (.own 1 1 0 1) (.pair (.i .i64) (.us 123 .unit))))))
abbrev hf_annealref24_Put_0 : List BF := [(.list 1 y_api_Config true (.pair (.si .i64) (.pair (.i .i64) (.pair (.i .i64) (.pair (.i .i64) (.pair (.i .i64) (.pair (.i .i64) (.pair (.i .u32) (.pair (.i .u32) (.pair (.i .u32) (.pair (.i .u32) (.pair (.i .u32) (.pair (.i .u32) (.pair (.i .i64) (.pair (.i .i64) (.pair (.i .i64) (.pair (.i .i64) (.pair (.i .u64) (.pair (.i .u32) (.pair .b (.pair (.i .i64) (.pair (.i .i64) (.pair (.i .i64) (.pair (.i .i64) (.pair (.i .i64) (.pair (.i .i64) (.pair (.i .i64) .unit))))))))))))))))))))))))))), (.ints 1 y_uint8 true .u8)]
abbrev X_annealref24_Put_0 : Xs := (.one (.exit 0) [1, 5] (.us 1 (.cst (.ref 0 1 0) (.us 3 (.pair (.own 1 1 0 1) (.us 124 .unit))))) [(.list 1 y_api_Config true (.pair (.si .i64) (.pair (.i .i64) (.pair (.i .i64) (.pair (.i .i64) (.pair (.i .i64) (.pair (.i .i64) (.pair (.i .u32) (.pair (.i .u32) (.pair (.i .u32) (.pair (.i .u32) (.pair (.i .u32) (.pair (.i .u32) (.pair (.i .i64) (.pair (.i .i64) (.pair (.i .i64) (.pair (.i .i64) (.pair (.i .u64) (.pair (.i .u32) (.pair .b (.pair (.i .i64) (.pair (.i .i64) (.pair (.i .i64) (.pair (.i .i64) (.pair (.i .i64) (.pair (.i .i64) (.pair (.i .i64) .unit))))))))))))))))))))))))))), (.ints 1 y_uint8 true .u8)])
abbrev S_annealref24_Put_0 : Type := T ff_annealref24_Put_0 × TH hf_annealref24_Put_0
abbrev E_annealref24_Put_0 : Type := TX X_annealref24_Put_0
noncomputable def LB_annealref24_Put_0 : Lps := L0
noncomputable def st_annealref24_Put_0 : StepT S_annealref24_Put_0 E_annealref24_Put_0 := fun R v kn ko =>
  let x0 : Nat := v.1.1
  let x1 : List Int := v.2.1.1
  let x2 : Int := v.1.2.1
  bif (decide (x2 < (((List.length x1) : Nat) : Int))) then
    bif (decide (((0:Int) ≤ x2) ∧ (x2 < (((List.length x1) : Nat) : Int)))) then
      ((F_annealref24_put x0 (IntKind.wrap .u64 (List.getD x1 (Int.toNat x2) (0:Int))) (2:Int) v.2.2.1)).bind fun r3 =>
      (kn ((r3.1, ((IntKind.wrap .i64 (x2 + (1:Int))), ())), (((List.take (List.length x1) x1), v.2.1.2), r3.2)))
    else
      none
  else
    (ko ((x0, ()), (((List.take (List.length x1) x1), v.2.1.2), v.2.2)))
noncomputable def ls_annealref24_Put_0 : St → LTr := (lsum ff_annealref24_Put_0 hf_annealref24_Put_0 X_annealref24_Put_0 Prod.mk id st_annealref24_Put_0 (hd [] [] [1, 5, 6] 0))
theorem lp_annealref24_Put_0 : LoopOk PR 0 (lpN f_annealref24_Put 0) ls_annealref24_Put_0 := loopT okO_annealref24_Put mixed (L := LB_annealref24_Put_0) (d := 1) (bs := []) (ks := [1, 5, 6]) (loopsL (l := []) (by kernel_rfl) trivial) (by kernel_rfl) (inS := Prod.mk) (outS := id) (fun _ _ => rfl) (inX := id) (outX := id) (fun _ => rfl) (fun v R kn ko => by kernel_rfl) (hd_wk [] [] [1, 5, 6] 0)
noncomputable def L_annealref24_Put : Lps := (lpB 16 (.un 12 [1, 5, 8, 9]) (lpB 7 (.by_ ls_annealref24_Put_0) L0))
def inn_annealref24_Put : T fr_annealref24_Put → TH hr_annealref24_Put → List Int × Int × Unit := (fun z w => z)
def out_annealref24_Put : List Int × Int × Unit → T fr_annealref24_Put × TH hr_annealref24_Put := fun r => (r, ())
noncomputable def F_annealref24_Put (a0 : List Int × Int × Int × Int × Int × Int × Int × Int × Int × Int × Int × Int × Int × Int × Int × Int × Int × Int × Bool × Int × Int × Int × Int × Int × Int × Int × Unit) : Option (List Int × Int × Unit) :=
  ((F_annealref24_Check ((List.take (List.length a0.1) a0.1), a0.2))).bind fun r0 =>
  bif (r0 != (0:Int)) then
    (some ([], (r0, ())))
  else
    ((lim st_annealref24_Put_0 (((9:Nat), ((0:Int), ())), (((List.take (List.length a0.1) a0.1), a0.2), ([(65:Int), (78:Int), (78:Int), (69:Int), (65:Int), (76:Int), (49:Int), (0:Int), (IntKind.wrap .u8 (((List.length a0.1) : Nat) : Int))], ()))))).bind fun r1 =>
    let x2 : Nat := r1.1.1
    let x3 : List Int := [r1.2.1.2.2.2.2.2.2.1, r1.2.1.2.2.2.2.2.2.2.1, r1.2.1.2.2.2.2.2.2.2.2.1, r1.2.1.2.2.2.2.2.2.2.2.2.1, r1.2.1.2.2.2.2.2.2.2.2.2.2.1, r1.2.1.2.2.2.2.2.2.2.2.2.2.2.1, r1.2.1.2.2.2.2.2.2.2.2.2.2.2.2.2.2.2.2.2.1, (IntKind.wrap .u32 r1.2.1.2.2.2.2.2.2.2.2.2.2.2.2.1), (IntKind.wrap .u32 r1.2.1.2.2.2.2.2.2.2.2.2.2.2.2.2.1), (IntKind.wrap .u32 r1.2.1.2.2.2.2.2.2.2.2.2.2.2.2.2.2.2.2.2.2.2.2.2.2.2.2.1), (IntKind.wrap .u32 r1.2.1.2.2.2.2.2.2.2.2.2.2.2.2.2.2.2.2.2.2.2.2.2.2.2.2.2.1)]
    bif (decide ((x2 + (6:Nat)) ≤ (1073741824:Nat))) then
      ((F_annealref24_put (x2 + (6:Nat)) (IntKind.wrap .u64 (List.getD x3 (0:Nat) (0:Int))) (4:Int) ((List.take x2 r1.2.2.1) ++ [(IntKind.wrap .u8 r1.2.1.2.1), (IntKind.wrap .u8 r1.2.1.2.2.1), (IntKind.wrap .u8 r1.2.1.2.2.2.1), (IntKind.wrap .u8 r1.2.1.2.2.2.2.1), (IntKind.wrap .u8 r1.2.1.2.2.2.2.2.1), (bif r1.2.1.2.2.2.2.2.2.2.2.2.2.2.2.2.2.2.2.2.2.1 then (1:Int) else (0:Int))]))).bind fun r4 =>
      ((F_annealref24_put r4.1 (IntKind.wrap .u64 (List.getD x3 (1:Nat) (0:Int))) (4:Int) r4.2.1)).bind fun r5 =>
      ((F_annealref24_put r5.1 (IntKind.wrap .u64 (List.getD x3 (2:Nat) (0:Int))) (4:Int) r5.2.1)).bind fun r6 =>
      ((F_annealref24_put r6.1 (IntKind.wrap .u64 (List.getD x3 (3:Nat) (0:Int))) (4:Int) r6.2.1)).bind fun r7 =>
      ((F_annealref24_put r7.1 (IntKind.wrap .u64 (List.getD x3 (4:Nat) (0:Int))) (4:Int) r7.2.1)).bind fun r8 =>
      ((F_annealref24_put r8.1 (IntKind.wrap .u64 (List.getD x3 (5:Nat) (0:Int))) (4:Int) r8.2.1)).bind fun r9 =>
      ((F_annealref24_put r9.1 (IntKind.wrap .u64 (List.getD x3 (6:Nat) (0:Int))) (4:Int) r9.2.1)).bind fun r10 =>
      ((F_annealref24_put r10.1 (IntKind.wrap .u64 (List.getD x3 (7:Nat) (0:Int))) (4:Int) r10.2.1)).bind fun r11 =>
      ((F_annealref24_put r11.1 (IntKind.wrap .u64 (List.getD x3 (8:Nat) (0:Int))) (4:Int) r11.2.1)).bind fun r12 =>
      ((F_annealref24_put r12.1 (IntKind.wrap .u64 (List.getD x3 (9:Nat) (0:Int))) (4:Int) r12.2.1)).bind fun r13 =>
      ((F_annealref24_put r13.1 (IntKind.wrap .u64 (List.getD x3 (10:Nat) (0:Int))) (4:Int) r13.2.1)).bind fun r14 =>
      ((F_annealref24_put r14.1 (IntKind.wrap .u64 r1.2.1.2.2.2.2.2.2.2.2.2.2.2.2.2.2.1) (2:Int) r14.2.1)).bind fun r15 =>
      ((F_annealref24_put r15.1 (IntKind.wrap .u64 r1.2.1.2.2.2.2.2.2.2.2.2.2.2.2.2.2.2.1) (2:Int) r15.2.1)).bind fun r16 =>
      bif (decide ((r16.1 + (5:Nat)) ≤ (1073741824:Nat))) then
        ((F_annealref24_put (r16.1 + (5:Nat)) r1.2.1.2.2.2.2.2.2.2.2.2.2.2.2.2.2.2.2.1 (8:Int) ((List.take r16.1 r16.2.1) ++ [(IntKind.wrap .u8 r1.2.1.2.2.2.2.2.2.2.2.2.2.2.2.2.2.2.2.2.2.2.1), (IntKind.wrap .u8 r1.2.1.2.2.2.2.2.2.2.2.2.2.2.2.2.2.2.2.2.2.2.2.1), (IntKind.wrap .u8 r1.2.1.2.2.2.2.2.2.2.2.2.2.2.2.2.2.2.2.2.2.2.2.2.1), (IntKind.wrap .u8 r1.2.1.2.2.2.2.2.2.2.2.2.2.2.2.2.2.2.2.2.2.2.2.2.2.1), (IntKind.wrap .u8 r1.2.1.2.2.2.2.2.2.2.2.2.2.2.2.2.2.2.2.2.2.2.2.2.2.2.1)]))).bind fun r17 =>
        (some ((List.take r17.1 (List.drop (0:Nat) r17.2.1)), ((0:Int), ())))
      else
        none
    else
      none
noncomputable def G_annealref24_Put : T fa_annealref24_Put → TH ha_annealref24_Put → Option (List Int × Int × Unit) := fun x y => F_annealref24_Put x.1
noncomputable def c_annealref24_Put : Orc := ent i_annealref24_Put [] 0 (sp fa_annealref24_Put ha_annealref24_Put fr_annealref24_Put hr_annealref24_Put G_annealref24_Put out_annealref24_Put)
theorem ok_annealref24_Put : OrcOk PR c_annealref24_Put := fnT okO_annealref24_Put mixed p_annealref24_Put (by kernel_rfl) (by kernel_rfl) (L := L_annealref24_Put) (kp := false) (by kernel_rfl) (inn := inn_annealref24_Put) (out := out_annealref24_Put) (fun _ _ => rfl) (loopsL (l := [((lpN f_annealref24_Put 0), ls_annealref24_Put_0)]) (by kernel_rfl) ⟨lp_annealref24_Put_0, trivial⟩) (fun x y => by kernel_rfl)
end Go.Proofs.Ytcpicekmnkjceaa.VI
