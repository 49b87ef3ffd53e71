import Derived.Test.YtkmkhcmfpbffjaaGreatT80e23899
namespace Go.Proofs.YtkmkhcmfpbffjaaGreat.VI
set_option linter.unusedVariables false
set_option linter.unusedSimpArgs false
set_option maxRecDepth 100000
set_option maxHeartbeats 4000000
def nf (f : Int) : Int := if f = 0 then 0 else if f = 1 then 1 else 2
theorem nf_cases (f : Int) : nf f = 0 ∨ nf f = 1 ∨ nf f = 2 := by unfold nf; split <;> (try split) <;> simp
theorem nf_RR (f : Int) : RR (nf f) = RR f := by rcases tri f with rfl | rfl | ⟨h, h'⟩ <;> simp [RR, nf, *]
theorem nf_BB (f : Int) : BB (nf f) = BB f := by rcases tri f with rfl | rfl | ⟨h, h'⟩ <;> simp [BB, nf, *]
theorem nf_TT (f : Int) : TT (nf f) = TT f := by rcases tri f with rfl | rfl | ⟨h, h'⟩ <;> simp [TT, nf, *]
theorem nf_MM (f : Int) : MM (nf f) = MM f := by rcases tri f with rfl | rfl | ⟨h, h'⟩ <;> simp [MM, nf, *]
theorem nf_EE (f : Int) : EE (nf f) = EE f := by rcases tri f with rfl | rfl | ⟨h, h'⟩ <;> simp [EE, nf, *]
theorem wid_nf (f : Int) : F_972 (nf f) = F_972 f := by
  rcases tri f with rfl | rfl | ⟨h, h'⟩
  · rfl
  · rfl
  · unfold F_972; rw [bif_eq, bif_eq, bif_eq, bif_eq]; simp [nf, *]
theorem widr_nf (f : Int) : F_919 (nf f) = F_919 f := by
  rcases tri f with rfl | rfl | ⟨h, h'⟩
  · rfl
  · rfl
  · unfold F_919; rw [bif_eq, bif_eq, bif_eq, bif_eq]; simp [nf, *]
theorem wid_eq (f : Int) : F_972 f = some (EE f, MM f, ()) := by
  rw [← wid_nf, ← nf_EE, ← nf_MM]; rcases nf_cases f with h | h | h <;> rw [h] <;> rfl
theorem widr_eq (f : Int) : F_919 f = some (EE f, MM f, ()) := by
  rw [← widr_nf, ← nf_EE, ← nf_MM]; rcases nf_cases f with h | h | h <;> rw [h] <;> rfl
theorem parts_eq (f : Int) {a : Int} (h0 : 0 ≤ a) (h1 : a < 4294967296) : F_971 f a = some (sg f a, ex f a, ff f a, ()) := by
  unfold F_971 sg ex ff
  rw [← wid_nf f, ← nf_RR f, ← nf_BB f, ← nf_TT f]
  rcases nf_cases f with h | h | h <;> rw [h]
  · show some _ = _
    have : ((bits .and .u32 (a / 32768) 1 == 1), IntKind.i64.wrap (bits .and .u32 (a / 1024) 31), bits .and .u32 a 1023, ()) = (decide (a / 32768 % 2 = 1), a / 1024 % 32, a % 1024, ()) := by
      rw [a1 _ (by omega) (by omega), a5 _ (by omega) (by omega), a10 _ h0 h1, wi64 (by omega)]; rfl
    exact congrArg some this
  · show some _ = _
    have : ((bits .and .u32 (a / 32768) 1 == 1), IntKind.i64.wrap (bits .and .u32 (a / 128) 255), bits .and .u32 a 127, ()) = (decide (a / 32768 % 2 = 1), a / 128 % 256, a % 128, ()) := by
      rw [a1 _ (by omega) (by omega), a8 _ (by omega) (by omega), a7 _ h0 h1, wi64 (by omega)]; rfl
    exact congrArg some this
  · show some _ = _
    have : ((bits .and .u32 (a / 2147483648) 1 == 1), IntKind.i64.wrap (bits .and .u32 (a / 8388608) 255), bits .and .u32 a 8388607, ()) = (decide (a / 2147483648 % 2 = 1), a / 8388608 % 256, a % 8388608, ()) := by
      rw [a1 _ (by omega) (by omega), a8 _ (by omega) (by omega), a23 _ h0 h1, wi64 (by omega)]; rfl
    exact congrArg some this
theorem mask_eq (f : Int) : F_97f f = some (2 * TT f - 1) := by
  unfold F_97f
  rw [← wid_nf f, ← nf_TT f]
  rcases nf_cases f with h | h | h <;> rw [h] <;> rfl
theorem maskr_eq (f : Int) : F_935 f = some (2 * TT f - 1) := by
  unfold F_935
  rw [← widr_nf f, ← nf_TT f]
  rcases nf_cases f with h | h | h <;> rw [h] <;> rfl
theorem top_eq (f : Int) : F_970 f = some (RR f - 1) := by
  unfold F_970
  rw [← wid_nf f, ← nf_RR f]
  rcases nf_cases f with h | h | h <;> rw [h] <;> rfl
theorem TT_cs (f : Int) : TT f = 32768 ∨ TT f = 2147483648 := by unfold TT; (repeat' split) <;> simp
theorem and_TT (f : Int) {a : Int} (h0 : 0 ≤ a) (h1 : a < 4294967296) : bits .and .u32 a (2 * TT f - 1) = a % (2 * TT f) := by
  rcases TT_cs f with h | h <;> rw [h]
  · exact a16 a h0 h1
  · have := a32 a h0 h1
    show bits .and .u32 a 4294967295 = _
    omega
theorem partsr_eq (f : Int) {a : Int} (h0 : 0 ≤ a) (h1 : a < 4294967296) : F_94b f a = some (sg f a, ex f a, ff f a, ()) := by
  unfold F_94b sg ex ff
  rw [maskr_eq, ← widr_nf f, ← nf_RR f, ← nf_BB f, ← nf_TT f]
  rcases nf_cases f with h | h | h <;> rw [h]
  · show some _ = _
    have : ((bits .and .u32 a 65535 / 32768 == 1), IntKind.i64.wrap (bits .and .u32 (bits .and .u32 a 65535 / 1024) 31), IntKind.u64.wrap (bits .and .u32 (bits .and .u32 a 65535) 1023), ()) = (decide (a / 32768 % 2 = 1), a / 1024 % 32, a % 1024, ()) := by
      rw [a16 _ h0 h1, a5 _ (by omega) (by omega), a10 _ (by omega) (by omega), wi64 (by omega), wu64 (by omega)]
      have e1 : a % 65536 / 32768 = a / 32768 % 2 := by omega
      have e2 : a % 65536 / 1024 % 32 = a / 1024 % 32 := by omega
      have e3 : a % 65536 % 1024 = a % 1024 := by omega
      rw [e1, e2, e3]; rfl
    exact congrArg some this
  · show some _ = _
    have : ((bits .and .u32 a 65535 / 32768 == 1), IntKind.i64.wrap (bits .and .u32 (bits .and .u32 a 65535 / 128) 255), IntKind.u64.wrap (bits .and .u32 (bits .and .u32 a 65535) 127), ()) = (decide (a / 32768 % 2 = 1), a / 128 % 256, a % 128, ()) := by
      rw [a16 _ h0 h1, a8 _ (by omega) (by omega), a7 _ (by omega) (by omega), wi64 (by omega), wu64 (by omega)]
      have e1 : a % 65536 / 32768 = a / 32768 % 2 := by omega
      have e2 : a % 65536 / 128 % 256 = a / 128 % 256 := by omega
      have e3 : a % 65536 % 128 = a % 128 := by omega
      rw [e1, e2, e3]; rfl
    exact congrArg some this
  · show some _ = _
    have : ((bits .and .u32 a 4294967295 / 2147483648 == 1), IntKind.i64.wrap (bits .and .u32 (bits .and .u32 a 4294967295 / 8388608) 255), IntKind.u64.wrap (bits .and .u32 (bits .and .u32 a 4294967295) 8388607), ()) = (decide (a / 2147483648 % 2 = 1), a / 8388608 % 256, a % 8388608, ()) := by
      rw [a32 _ h0 h1, a8 _ (by omega) (by omega), a23 _ (by omega) (by omega), wi64 (by omega), wu64 (by omega)]
      have e1 : a / 2147483648 = a / 2147483648 % 2 := by omega
      rw [← e1]; rfl
    exact congrArg some this
theorem RR_pos (f : Int) : RR f = 32 ∨ RR f = 256 := by unfold RR; split <;> simp
theorem class_eq (f : Int) {a : Int} (h0 : 0 ≤ a) (h1 : a < 4294967296) : F_96e f a = some (kl f a) := by
  unfold F_96e
  rw [parts_eq f h0 h1, top_eq]
  unfold kl
  generalize ex f a = e
  generalize ff f a = m
  rw [← wid_nf f, ← nf_RR f, ← nf_BB f]
  rcases nf_cases f with h | h | h <;> rw [h]
  all_goals
    by_cases he : e = 0 <;> by_cases hm : m = 0 <;> simp [he, hm, bif_eq, bif_dec, wid_eq, EE, MM, RR, BB, wu64_eq, wi64]
    all_goals (try (split <;> (try rfl)))
    all_goals (try (split <;> rfl))
theorem classr_eq (f : Int) {a : Int} (h0 : 0 ≤ a) (h1 : a < 4294967296) : F_920 f a = some (kl f a) := by
  unfold F_920
  rw [partsr_eq f h0 h1]
  unfold kl
  generalize ex f a = e
  generalize ff f a = m
  rw [← widr_nf f, ← nf_RR f, ← nf_BB f]
  rcases nf_cases f with h | h | h <;> rw [h]
  all_goals
    by_cases he : e = 0 <;> by_cases hm : m = 0 <;> simp [he, hm, bif_eq, bif_dec, widr_eq, EE, MM, RR, BB, wu64_eq, wi64]
    all_goals (try (split <;> (try rfl)))
    all_goals (try (split <;> rfl))
abbrev w32 (a : Int) : Prop := 0 ≤ a ∧ a < 4294967296
theorem some_dn {p q : Prop} [Decidable p] [Decidable q] (h : p ↔ q) : some (decide p) = some (decide q) := by simp [h]
theorem isnan_eq (f : Int) {a : Int} (h : w32 a) : F_96c f a = some (nan f a) := by
  unfold F_96c nan; rw [class_eq f h.1 h.2]; exact some_dn (kl_nan f a)
theorem iszero_eq (f : Int) {a : Int} (h : w32 a) : F_93f f a = some (zr f a) := by
  unfold F_93f zr; rw [class_eq f h.1 h.2]
  show some (decide (kl f a = 0)) = _
  exact some_dn (kl_zero f a)
theorem neg_eq (f : Int) {a : Int} (h : w32 a) : F_941 f a = some (sg f a) := by
  unfold F_941; rw [parts_eq f h.1 h.2]; rfl
theorem negr_eq (f : Int) {a : Int} (h : w32 a) : F_92f f a = some (sg f a) := by
  unfold F_92f; rw [partsr_eq f h.1 h.2]; rfl
theorem sg_iff (f v : Int) (h0 : 0 ≤ v) : sg f v = true ↔ TT f ≤ v % (2 * TT f) := by
  unfold sg
  rcases TT_cs f with h | h <;> rw [h] <;> simp <;> omega
theorem mod_bd (f v : Int) : 0 ≤ v % (2 * TT f) ∧ v % (2 * TT f) < 2 * TT f ∧ (TT f ≤ v % (2 * TT f) → v % TT f = v % (2 * TT f) - TT f) ∧ (v % (2 * TT f) < TT f → v % TT f = v % (2 * TT f)) := by
  rcases TT_cs f with h | h <;> rw [h] <;> omega
theorem turn_eq (f : Int) {a : Int} (h : w32 a) : F_96b f a = some (if sg f a then a % (2 * TT f) - TT f else a % (2 * TT f) + TT f) := by
  unfold F_96b
  rw [mask_eq]
  have hb := mod_bd f a
  have hs := sg_iff f a h.1
  have hm := and_TT f h.1 h.2
  have key : bits .xor .u32 (a % (2 * TT f)) (TT f) = if sg f a then a % (2 * TT f) - TT f else a % (2 * TT f) + TT f := by
    have x : bits .xor .u32 (a % (2 * TT f)) (TT f) = if a % (2 * TT f) < TT f then a % (2 * TT f) + TT f else a % (2 * TT f) - TT f := by
      rcases TT_cs f with e | e <;> rw [e] at hb ⊢
      · exact xor_top32 (a % (2 * 32768)) 15 (by omega) hb.1 hb.2.1
      · exact xor_top32 (a % (2 * 2147483648)) 31 (by omega) hb.1 hb.2.1
    rw [x]
    by_cases hh : sg f a = true
    · rw [if_pos hh, if_neg (by have := hs.1 hh; omega)]
    · rw [if_neg hh, if_pos (by have : ¬ TT f ≤ a % (2 * TT f) := fun k => hh (hs.2 k); omega)]
  rw [← key, ← hm]
  rw [← wid_nf f, ← nf_TT f]
  rcases nf_cases f with e | e | e <;> rw [e] <;> rfl
theorem key_eq (f : Int) {a : Int} (h : w32 a) : F_963 f a = some (ky f a) := by
  unfold F_963 ky
  rw [mask_eq, neg_eq f h, turn_eq f h]
  have hb := mod_bd f a
  have hs := sg_iff f a h.1
  have hT := TT_cs f
  simp only [Option.bind_some, and_TT f h.1 h.2]
  cases hh : sg f a
  · have : ¬ TT f ≤ a % (2 * TT f) := fun k => by rw [hs.2 k] at hh; cases hh
    simp
    rw [wi64 (by omega)]; omega
  · have := hs.1 hh
    simp
    rw [wi64 (n := a % (2 * TT f) - TT f) (by omega), wi64 (by omega)]; omega
theorem signr_eq (f : Int) (b : Bool) : F_938 f b = some (if b then TT f else 0) := by
  unfold F_938
  rw [← widr_nf f, ← nf_TT f]
  rcases nf_cases f with h | h | h <;> rw [h] <;> cases b <;> rfl
theorem kl_le (f a : Int) : 0 ≤ kl f a ∧ kl f a ≤ 5 := by unfold kl; (repeat' split) <;> omega
theorem gtd {l : List Int} {i : Nat} (h : i < l.length) (d : Int) : l.getD i d = l[i] := by simp [List.getD, List.getElem?_eq_getElem h]
theorem nans_st (f : Int) (l : List Int) (i : Nat) (s q : Bool) (hi : i < l.length) (hl : l.length < 4611686018427387904) (h : w32 (l.getD i 0)) (R kn ko) :
    st_92b_0 R ((f, l, s, q, (i : Int), ()), ()) kn ko = kn ((f, l, s || nan f (l.getD i 0), q || decide (kl f (l.getD i 0) = 5), ((i + 1 : Nat) : Int), ()), ()) := by
  unfold st_92b_0
  simp only [List.take_length, bif_dec]
  rw [if_pos (by omega), if_pos (by omega), Int.toNat_natCast, classr_eq f h.1 h.2]
  have e1 := kl_nan f (l.getD i 0)
  have e2 : nan f (l.getD i 0) = ((kl f (l.getD i 0) == 4) || decide (kl f (l.getD i 0) = 5)) := by
    have := kl_le f (l.getD i 0)
    unfold nan
    rw [Bool.eq_iff_iff]
    simp [-List.getD_eq_getElem?_getD]; omega
  rw [wi64 (by omega), e2]
  have e3 : (kl f (l.getD i 0) == 5) = decide (kl f (l.getD i 0) = 5) := rfl
  simp only [Option.bind_some, e3]
  rw [show ((i + 1 : Nat) : Int) = (i : Int) + 1 by omega]
  cases s <;> cases q <;> cases kl f (l.getD i 0) == 4 <;> rfl
theorem nans_eq (f : Int) (l : List Int) (hl : l.length < 4611686018427387904) (h : ∀ a ∈ l, w32 a) :
    F_92b f l = some (l.any (nan f), l.any (fun a => decide (kl f a = 5)), ()) := by
  unfold F_92b
  rw [List.take_length]
  have := lim_seq (st := st_92b_0) (fun i => ((f, l, (l.take i).any (nan f), (l.take i).any (fun a => decide (kl f a = 5)), (i : Int), ()), ()))
    (b := ((l.any (nan f), l.any (fun a => decide (kl f a = 5)), ()), ())) l.length
    (fun i hi R kn ko => by
      have hm : l.getD i 0 ∈ l := by rw [gtd hi]; exact List.getElem_mem hi
      rw [nans_st f l i _ _ hi hl (h _ hm)]
      rw [List.take_add_one, List.getElem?_eq_getElem hi, gtd hi]
      simp only [List.any_append, Option.toList_some, List.any_cons, List.any_nil, Bool.or_false])
    (fun R kn ko => by
      unfold st_92b_0
      simp only [bif_dec]
      rw [if_neg (by omega), List.take_length])
  exact (congrArg (fun o => Option.bind o fun r0 => some r0.1) this).trans rfl
theorem cmp_eq (f : Int) {a b : Int} (ha : w32 a) (hb : w32 b) : F_94a f a b = some ((cmp f a b).1, (cmp f a b).2, ()) := by
  unfold F_94a cmp
  rw [isnan_eq f ha, isnan_eq f hb, key_eq f ha, key_eq f hb, iszero_eq f ha, iszero_eq f hb]
  cases nan f a <;> cases nan f b <;> cases zr f a <;> cases zr f b <;> simp [bif_dec]
  all_goals (split <;> (try split) <;> rfl)
theorem less_eq (f : Int) {a b : Int} (ha : w32 a) (hb : w32 b) : F_976 f a b = some (lt f a b) := by
  unfold F_976 lt
  rw [cmp_eq f ha hb]; rfl
theorem nan_w (f : Int) : F_96d f = some (IN f + BB f / 2) := by
  unfold F_96d F_96f
  rw [top_eq, ← wid_nf f]
  unfold IN
  rw [← nf_RR f, ← nf_BB f]
  rcases nf_cases f with e | e | e <;> rw [e] <;> rfl
theorem nanr_w (f : Int) : F_92c f = some (IN f + BB f / 2) := by
  unfold F_92c F_92e
  rw [signr_eq, if_neg (by simp), ← widr_nf f]
  unfold IN
  rw [← nf_RR f, ← nf_BB f]
  rcases nf_cases f with e | e | e <;> rw [e] <;> rfl
theorem p2_pos (k : Nat) : (0 : Int) < 2 ^ k := Int.pow_pos (by omega)
theorem p2_add (a b : Nat) : (2 : Int) ^ (a + b) = 2 ^ a * 2 ^ b := Int.pow_add 2 a b
theorem p2_succ (a : Nat) : (2 : Int) ^ (a + 1) = 2 * 2 ^ a := by rw [Int.pow_succ]; omega
theorem p2_le {a b : Nat} (h : a ≤ b) : (2 : Int) ^ a ≤ 2 ^ b := by
  have : (2 : Nat) ^ a ≤ 2 ^ b := Nat.pow_le_pow_right (by omega) h
  have h3 : ((2 ^ a : Nat) : Int) ≤ ((2 ^ b : Nat) : Int) := by exact_mod_cast this
  simpa using h3
theorem p2_inj {a b : Nat} (h : (2 : Int) ^ a < 2 ^ b) : a < b := by
  apply Nat.lt_of_not_le; intro k; have := p2_le k; omega
def lg (v : Int) : Nat := v.toNat.log2
def ln (v : Int) : Int := if v ≤ 0 then 0 else (lg v : Int) + 1
theorem lg_le {v : Int} (h : 0 < v) : 2 ^ lg v ≤ v := by
  have := Nat.log2_self_le (n := v.toNat) (by omega)
  have h3 : ((2 ^ v.toNat.log2 : Nat) : Int) ≤ ((v.toNat : Nat) : Int) := by exact_mod_cast this
  unfold lg
  have e : ((2 ^ v.toNat.log2 : Nat) : Int) = 2 ^ v.toNat.log2 := by simp
  omega
theorem lg_lt {v : Int} (h : 0 < v) : v < 2 ^ (lg v + 1) := by
  have := Nat.lt_log2_self (n := v.toNat)
  have h3 : ((v.toNat : Nat) : Int) < ((2 ^ (v.toNat.log2 + 1) : Nat) : Int) := by exact_mod_cast this
  unfold lg
  have e : ((2 ^ (v.toNat.log2 + 1) : Nat) : Int) = 2 ^ (v.toNat.log2 + 1) := by simp
  omega
theorem lg_uniq {v : Int} {k : Nat} (h1 : 2 ^ k ≤ v) (h2 : v < 2 ^ (k + 1)) : lg v = k := by
  have hv : 0 < v := by have := p2_pos k; omega
  have a := lg_le hv
  have b := lg_lt hv
  have c := p2_inj (show (2 : Int) ^ lg v < 2 ^ (k + 1) by omega)
  have d := p2_inj (show (2 : Int) ^ k < 2 ^ (lg v + 1) by omega)
  omega
theorem lg_bd {v : Int} {k : Nat} (h : 0 < v) (h2 : v < 2 ^ k) : lg v < k := by
  have := lg_le h
  exact p2_inj (by omega)
theorem lg_ge {v : Int} {k : Nat} (h2 : 2 ^ k ≤ v) : k ≤ lg v := by
  have hv : 0 < v := by have := p2_pos k; omega
  have := lg_lt hv
  have := p2_inj (show (2 : Int) ^ k < 2 ^ (lg v + 1) by omega)
  omega
theorem lg_mul {v : Int} (h : 0 < v) (k : Nat) : lg (v * 2 ^ k) = lg v + k := by
  have a := lg_le h
  have b := lg_lt h
  have c := p2_pos k
  apply lg_uniq
  · rw [p2_add]; exact Int.mul_le_mul_of_nonneg_right a (by omega)
  · rw [show lg v + k + 1 = lg v + 1 + k by omega, p2_add]; exact Int.mul_lt_mul_of_pos_right b c
theorem div_p2 (v : Int) (a b : Nat) : v / 2 ^ a / 2 ^ b = v / 2 ^ (a + b) := by
  rw [p2_add, Int.ediv_ediv_of_nonneg (by have := p2_pos a; omega)]
theorem mod_p2 (v : Int) (a b : Nat) : v % 2 ^ (a + b) = v % 2 ^ a + 2 ^ a * (v / 2 ^ a % 2 ^ b) := by
  have ha := p2_pos a
  have hb := p2_pos b
  rw [p2_add, Int.emod_def, Int.emod_def, Int.emod_def, ← Int.ediv_ediv_of_nonneg (by omega), Int.mul_sub, ← Int.mul_assoc]
  omega
theorem lg_div {v : Int} {k : Nat} (h : 2 ^ k ≤ v) : lg (v / 2 ^ k) = lg v - k ∧ 0 < v / 2 ^ k ∧ k ≤ lg v := by
  have hv : 0 < v := by have := p2_pos k; omega
  have a := lg_le hv
  have b := lg_lt hv
  have c := p2_pos k
  have d := lg_ge h
  have e : lg v = k + (lg v - k) := by omega
  have q : (1 : Int) ≤ v / 2 ^ k := by rw [Int.le_ediv_iff_mul_le c]; omega
  refine ⟨lg_uniq ?_ ?_, by omega, d⟩
  · rw [Int.le_ediv_iff_mul_le c, Int.mul_comm, ← p2_add, ← e]; exact a
  · rw [Int.ediv_lt_iff_lt_mul c, ← p2_add, show lg v - k + 1 + k = lg v + 1 by omega]; exact b
theorem ln_pos {v : Int} (h : 0 < v) : ln v = lg v + 1 := by unfold ln; rw [if_neg (by omega)]
theorem ln_bd {v : Int} {k : Nat} (h0 : 0 ≤ v) (h2 : v < 2 ^ k) : 0 ≤ ln v ∧ ln v ≤ k := by
  unfold ln; split
  · omega
  · have := lg_bd (by omega) h2; omega
theorem ln_div {v : Int} {k : Nat} (h : 2 ^ k ≤ v) : ln v = k + ln (v / 2 ^ k) := by
  have a := lg_div h
  have := p2_pos k
  rw [ln_pos (by omega), ln_pos a.2.1]; omega
theorem ln_half {v : Int} (h : 0 < v) : ln v = 1 + ln (v / 2) := by
  by_cases e : v = 1
  · subst e; rfl
  have := ln_div (v := v) (k := 1) (by rw [show (2 : Int) ^ 1 = 2 from rfl]; omega)
  simpa using this
end Go.Proofs.YtkmkhcmfpbffjaaGreat.VI
