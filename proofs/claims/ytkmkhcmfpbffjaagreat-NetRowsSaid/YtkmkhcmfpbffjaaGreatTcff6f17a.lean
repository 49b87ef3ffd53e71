import Derived.Test.YtkmkhcmfpbffjaaGreatT1ac1d669
namespace Go.Proofs.YtkmkhcmfpbffjaaGreat.VI
set_option linter.unusedVariables false
set_option linter.unusedSimpArgs false
set_option maxRecDepth 100000
set_option maxHeartbeats 4000000
def inff (f a : Int) : Bool := decide (a % TT f = IN f)
def loud (f a : Int) : Bool := decide (kl f a = 5)
def NN (f : Int) : Int := IN f + BB f / 2
theorem isinf_eq (f : Int) {a : Int} (h : w32 a) : F_942 f a = some (inff f a) := by
  unfold F_942 inff; rw [class_eq f h.1 h.2]
  show some (decide (kl f a = 3)) = _
  exact some_dn (kl_inf f a)
theorem infr_c (f : Int) {a : Int} (h : w32 a) : F_92d f a = some (inff f a) := by
  unfold F_92d inff; rw [classr_eq f h.1 h.2]
  show some (decide (kl f a = 3)) = _
  exact some_dn (kl_inf f a)
theorem cls (f a : Int) : (nan f a = true ∧ zr f a = false ∧ inff f a = false) ∨ (nan f a = false ∧ loud f a = false ∧ zr f a = true ∧ inff f a = false) ∨ (nan f a = false ∧ loud f a = false ∧ zr f a = false ∧ inff f a = true) ∨ (nan f a = false ∧ loud f a = false ∧ zr f a = false ∧ inff f a = false) := by
  have k1 := kl_nan f a
  have k2 := kl_zero f a
  have k3 := kl_inf f a
  have hb := kl_le f a
  unfold nan zr inff loud
  generalize kl f a = k at *
  simp only [decide_eq_true_eq, decide_eq_false_iff_not, ← k1, ← k2, ← k3]
  omega
theorem snans_st (f : Int) (l : List Int) (z : (Bool × Bool × Bool × Bool × Bool × Unit)) (i : Nat) (s q : Bool) (hi : i < l.length) (hl : l.length < 4611686018427387904) (h : w32 (l.getD i 0)) (R kn ko) :
    st_966_0 R ((f, (s, (l, ((l.length : Int), ((i : Int), ()))))), (z, ((q, false, false, false, false, ()), ()))) kn ko = kn ((f, (s || nan f (l.getD i 0), (l, ((l.length : Int), (((i + 1 : Nat) : Int), ()))))), (z, ((q || loud f (l.getD i 0), false, false, false, false, ()), ()))) := by
  unfold st_966_0
  dsimp only
  simp only [List.take_length, bif_dec]
  rw [if_pos (by omega), if_pos (by omega), Int.toNat_natCast, class_eq f h.1 h.2]
  have e1 := kl_nan f (l.getD i 0)
  have e2 : decide (kl f (l.getD i 0) ≥ 4) = nan f (l.getD i 0) := decide_eq_decide.2 e1
  have e3 : (kl f (l.getD i 0) == 5) = loud f (l.getD i 0) := rfl
  rw [wi64 (by omega)]
  simp only [Option.bind_some, e2, e3]
  rw [show ((i + 1 : Nat) : Int) = (i : Int) + 1 by omega]
  cases s <;> cases q <;> rfl
theorem snans_eq (f : Int) (l : List Int) (hl : l.length < 4611686018427387904) (h : ∀ a ∈ l, w32 a) :
    F_966 f l = some (NN f, (l.any (loud f), false, false, false, false, ()), l.any (nan f), ()) := by
  unfold F_966
  rw [List.take_length]
  have := lim_seq (st := st_966_0) (fun i => ((f, ((l.take i).any (nan f), (l, ((l.length : Int), ((i : Int), ()))))), (EXC0, (((l.take i).any (loud f), false, false, false, false, ()), ()))))
    (b := ((f, (l.any (nan f), ())), (EXC0, ((l.any (loud f), false, false, false, false, ()), ())))) l.length
    (fun i hi R kn ko => by
      have hm : l.getD i 0 ∈ l := by rw [gtd hi]; exact List.getElem_mem hi
      rw [snans_st f l _ i _ _ hi hl (h _ hm)]
      rw [List.take_add_one, List.getElem?_eq_getElem hi, gtd hi]
      simp only [List.any_append, Option.toList_some, List.any_cons, List.any_nil, Bool.or_false])
    (fun R kn ko => by
      unfold st_966_0
      dsimp only
      rw [bif_dec, if_neg (by omega), List.take_length])
  have e : lim st_966_0 ((f, (false, (l, ((((List.length l) : Nat) : Int), ((0:Int), ()))))), ((false, (false, (false, (false, (false, ()))))), ((false, (false, (false, (false, (false, ()))))), ()))) = _ := this
  rw [e]
  simp only [Option.bind_some, nan_w]
  rfl
theorem torn_eq (f : Int) {a b : Int} (ha : w32 a) (hb : w32 b) : F_990 f a b = some ((zr f a && inff f b) || (inff f a && zr f b)) := by
  unfold F_990
  rw [iszero_eq f ha, isinf_eq f ha, iszero_eq f hb, isinf_eq f hb]
  cases zr f a <;> cases inff f b <;> cases inff f a <;> cases zr f b <;> rfl
theorem sig_bd (f a : Int) : 0 ≤ sig f a ∧ sig f a < 2 * BB f := by
  have b2 := ff_bd f a
  have fb := fmt_bd f
  unfold sig; split
  · omega
  · split <;> omega
theorem xp_bd (f a : Int) : -149 ≤ xp f a ∧ xp f a ≤ 127 := by
  have b1 := ex_bd f a
  unfold xp le
  rcases tri f with rfl | rfl | ⟨h, h'⟩ <;> simp [RR, MM, *] at b1 ⊢ <;> (repeat' split) <;> omega
theorem or_BB (f : Int) {x : Int} (hx : 0 ≤ x ∧ x < BB f) : bits .or .u64 x (BB f) = x + BB f := by
  have fb := fmt_bd f
  obtain ⟨k, hk, hb, hk3⟩ := MM_pow f
  rw [or_comm64]
  rw [or_join64 (BB f) x k (by omega) (by omega) hx.1 (by omega) (by omega) (by rw [hb]; exact Int.emod_self)]
  omega
theorem unpack_eq (f : Int) {a : Int} (h : w32 a) : F_943 f a = some (sg f a, xp f a, sig f a, ()) := by
  have b1 := ex_bd f a
  have b2 := ff_bd f a
  have fb := fmt_bd f
  have lb := le_bd f
  unfold F_943 xp sig
  rw [parts_eq f h.1 h.2, wid_eq, least_eq, top_eq]
  have e1 : IntKind.wrap .u64 (1 * (2:Int) ^ (Min.min (Int.toNat (IntKind.wrap .u64 (MM f))) 64)) = BB f := by
    rw [← nf_MM, ← nf_BB]; rcases nf_cases f with h | h | h <;> rw [h] <;> rfl
  simp only [Option.bind_some, e1, wu64_nn, decide_true, cond_true, bif_eq]
  rw [wu64 (n := ff f a) (by omega), or_BB f b2, wi64 (n := le f - MM f) (by omega), wi64 (n := le f - MM f + ex f a) (by omega), wi64 (n := le f - MM f + ex f a - 1) (by omega)]
  split
  · rfl
  · split <;> rfl
theorem unpackr_eq (f : Int) {a : Int} (h : w32 a) : F_91f f a = some (sg f a, xp f a, sig f a, ()) := by
  have b1 := ex_bd f a
  have b2 := ff_bd f a
  have fb := fmt_bd f
  have lb := le_bd f
  have hkl : kl f a = if ex f a = 0 then (if ff f a = 0 then 0 else 1) else if ex f a < RR f - 1 then 2 else if ff f a = 0 then 3 else if ff f a / (BB f / 2) = 1 then 4 else 5 := rfl
  unfold F_91f xp sig
  rw [partsr_eq f h.1 h.2, widr_eq, bias_eq, classr_eq f h.1 h.2]
  have e1 : IntKind.wrap .u64 (1 * (2:Int) ^ (Min.min (Int.toNat (MM f)) 64)) = BB f := by
    rw [← nf_MM, ← nf_BB]; rcases nf_cases f with h | h | h <;> rw [h] <;> rfl
  simp only [Option.bind_some, e1, bif_dec]
  rw [if_pos (by omega), or_BB f b2, wi64 (n := ex f a - (1 - le f)) (by omega), wi64 (n := ex f a - (1 - le f) - MM f) (by omega), wi64 (n := 1 - (1 - le f)) (by omega), wi64 (n := 1 - (1 - le f) - MM f) (by omega), hkl]
  by_cases h0 : ex f a = 0
  · simp only [if_pos h0]
    rw [show 1 - (1 - le f) - MM f = le f - MM f by omega]
    by_cases hf : ff f a = 0
    · rw [if_pos hf]; rfl
    · rw [if_neg hf]; rfl
  · simp only [if_neg h0]
    by_cases h1 : ex f a < RR f - 1
    · rw [if_pos h1, if_neg (by omega), if_neg (by omega)]
      rw [show ex f a - (1 - le f) - MM f = le f - MM f + ex f a - 1 by omega]
      rfl
    · have h2 : ex f a = RR f - 1 := by omega
      rw [if_neg h1]
      simp only [if_pos h2]
      by_cases hf : ff f a = 0
      · rw [if_pos hf]; rfl
      · rw [if_neg hf]
        by_cases hq : ff f a / (BB f / 2) = 1
        · rw [if_pos hq]; rfl
        · rw [if_neg hq]; rfl
theorem of_eq (f : Int) {a : Int} (h : w32 a) : F_968 f a = some (sg f a, xp f a, sig f a, false, ()) := by
  unfold F_968; rw [unpack_eq f h]; rfl
theorem sig_zero (f a : Int) (hn : nan f a = false) (hi : inff f a = false) : sig f a = 0 ↔ zr f a = true := by
  have e := ex_fr f a
  have b1 := ex_bd f a
  have b2 := ff_bd f a
  unfold nan at hn; unfold inff at hi; unfold zr sig
  simp only [decide_eq_false_iff_not] at hn hi
  simp only [decide_eq_true_eq]
  rw [← e] at hn hi ⊢
  unfold IN at hn hi
  generalize ex f a = x at *
  generalize ff f a = m at *
  rcases tri f with rfl | rfl | ⟨h, h'⟩ <;> simp [BB, RR, *] at b1 b2 hn hi ⊢ <;> (repeat' split) <;> omega
def mulS (f mode a b : Int) : Int × ExcT × Unit :=
  if nan f a || nan f b then (NN f, (loud f a || loud f b, false, false, false, false, ()), ())
  else if (zr f a && inff f b) || (inff f a && zr f b) then (NN f, (true, false, false, false, false, ()), ())
  else if inff f a || inff f b then (sgn f (!(sg f a == sg f b)) + IN f, EXC0, ())
  else pk f mode (!(sg f a == sg f b)) (xp f a + xp f b) (sig f a * sig f b) false
theorem sig_mul (f a b : Int) : w64 (sig f a * sig f b) ∧ sig f a * sig f b < 2 ^ 48 := by
  have A := sig_bd f a
  have B := sig_bd f b
  have fb := fmt_bd f
  have h : sig f a * sig f b ≤ 16777215 * 16777215 := Int.mul_le_mul (by omega) (by omega) B.1 (by omega)
  have : (2 : Int) ^ 48 = 281474976710656 := rfl
  exact ⟨⟨Int.mul_nonneg A.1 B.1, by omega⟩, by omega⟩
theorem mul_eq (f mode : Int) {a b : Int} (ha : w32 a) (hb : w32 b) : F_977 f mode a b = some (mulS f mode a b) := by
  have sm := sig_mul f a b
  have xa := xp_bd f a
  have xb := xp_bd f b
  unfold F_977 F_991 F_978 mulS
  rw [snans_eq f [a, b] (by simp) (by simpa using ⟨ha, hb⟩), torn_eq f ha hb, neg_eq f ha, neg_eq f hb, isinf_eq f ha, isinf_eq f hb, of_eq f ha, of_eq f hb, nan_w]
  simp only [Option.bind_some, List.any_cons, List.any_nil, Bool.or_false, inf_eq]
  rw [wu64 (n := sig f a * sig f b) (by have := sm.1; omega), wi64 (n := xp f a + xp f b) (by omega), pack_eq f mode _ _ sm.1, show min (max (xp f a + xp f b) (-10000)) 10000 = xp f a + xp f b by omega]
  rcases cls f a with ⟨a1, a3, a4⟩ | ⟨a1, a2, a3, a4⟩ | ⟨a1, a2, a3, a4⟩ | ⟨a1, a2, a3, a4⟩ <;> rcases cls f b with ⟨b1, b3, b4⟩ | ⟨b1, b2, b3, b4⟩ | ⟨b1, b2, b3, b4⟩ | ⟨b1, b2, b3, b4⟩ <;> simp only [a1, a3, a4, b1, b3, b4] <;> rfl
def sumS (f mode : Int) (n : Bool) (e N : Int) (m : Bool) (d M : Int) : Int × ExcT × Unit :=
  if sv n (N * 2 ^ (e + 298).toNat) + sv m (M * 2 ^ (d + 298).toNat) = 0 ∧ n = m then (sgn f n, EXC0, ())
  else totS f mode (sv n (N * 2 ^ (e + 298).toNat) + sv m (M * 2 ^ (d + 298).toNat))
theorem sv_mul (n : Bool) (A P : Int) : sv n (A * P) = sv n A * P := by unfold sv; cases n <;> simp [Int.neg_mul]
theorem psum_eq (f mode : Int) (n m : Bool) {e N d M : Int} (hN : 0 ≤ N ∧ N < 2 ^ 48) (hM : 0 ≤ M ∧ M < 2 ^ 48) (he : -298 ≤ e ∧ e ≤ 300) (hd : -298 ≤ d ∧ d ≤ 300) :
    ((F_969 (n, e, N, false, ()) (m, d, M, false, ())).bind fun r =>
      bif (r.2.2.1 == (0:Int)) then
        bif (!r.2.2.2.1) then
          ((F_96a f mode n m)).bind fun r15 =>
          (some (r15, ((false, (false, (false, (false, (false, ()))))), ())))
        else
          ((F_961 f mode r.1 r.2.1 r.2.2.1 r.2.2.2.1)).bind fun r16 => (some r16)
      else
        ((F_961 f mode r.1 r.2.1 r.2.2.1 r.2.2.2.1)).bind fun r17 => (some r17)) = some (sumS f mode n e N m d M) := by
  obtain ⟨r, hr, hw, hex, hz, hnz⟩ := exact_eq n m e N d M 400 hN hM (by omega) (by omega) (by omega) (by omega)
  rw [hr]
  simp only [Option.bind_some]
  have p102 := p2_pos 102
  have hT : sv n (N * 2 ^ (e + 400).toNat) + sv m (M * 2 ^ (d + 400).toNat) = (sv n (N * 2 ^ (e + 298).toNat) + sv m (M * 2 ^ (d + 298).toNat)) * 2 ^ 102 := by
    rw [show (e + 400).toNat = (e + 298).toNat + 102 by omega, show (d + 400).toNat = (d + 298).toNat + 102 by omega, p2_add, p2_add, ← Int.mul_assoc, ← Int.mul_assoc, sv_mul n _ (2 ^ 102), sv_mul m _ (2 ^ 102), Int.add_mul]
  unfold sumS
  rw [hT] at hz hnz
  generalize sv n (N * 2 ^ (e + 298).toNat) + sv m (M * 2 ^ (d + 298).toNat) = T at *
  by_cases h0 : T = 0
  · have := hz (by rw [h0]; simp)
    rw [this.1, this.2]
    simp only [BEq.rfl, Bool.not_false, cond_true]
    unfold F_96a
    rw [zero_eq, zero_eq]
    by_cases hnm : n = m
    · rw [if_pos ⟨h0, hnm⟩]; subst hnm; simp
    · rw [if_neg (fun h => hnm h.2)]
      have : (n == m) = false := by simpa using hnm
      rw [this]
      unfold totS
      rw [if_pos h0]
      rfl
  · rw [if_neg (fun h => h0 h.1)]
    have hne : T * 2 ^ 102 ≠ 0 := by
      intro k; rcases Int.mul_eq_zero.1 k with q | q
      · exact h0 q
      · omega
    obtain ⟨h1, h2, h3⟩ := hnz hne
    have hlt : (T * 2 ^ 102 < 0) ↔ T < 0 := by
      constructor
      · intro k; apply Int.not_le.1; intro hle
        have := Int.mul_nonneg hle (show (0 : Int) ≤ 2 ^ 102 by omega); omega
      · intro k
        have := Int.mul_lt_mul_of_pos_right k p102
        rw [Int.zero_mul] at this; exact this
    have hab : (if T * 2 ^ 102 < 0 then -(T * 2 ^ 102) else T * 2 ^ 102) = (if T < 0 then -T else T) * 2 ^ 102 := by
      by_cases k : T < 0
      · rw [if_pos (hlt.2 k), if_pos k, Int.neg_mul]
      · rw [if_neg (fun q => k (hlt.1 q)), if_neg k]
    have hpk : F_961 f mode r.1 r.2.1 r.2.2.1 r.2.2.2.1 = some (totS f mode T) := by
      rw [pack_eq f mode _ _ hw, show min (max r.2.1 (-10000)) 10000 = r.2.1 by omega, h3 f mode, hab, decide_eq_decide.2 hlt, pk_shift _ _ _ _ _ _ (by split <;> omega)]
      unfold totS
      rw [if_neg h0]
      rfl
    rw [hpk]
    simp only [Option.bind_some]
    cases hq : r.2.2.1 == 0
    · rfl
    · cases hq2 : r.2.2.2.1
      · exact absurd ⟨by simpa using hq, hq2⟩ h1
      · rfl
set_option maxHeartbeats 8000000
def fmaS (f mode a b c : Int) : Int × ExcT × Unit :=
  if (nan f a || (nan f b || nan f c)) || ((zr f a && inff f b) || (inff f a && zr f b)) then (NN f, ((loud f a || (loud f b || loud f c)) || ((zr f a && inff f b) || (inff f a && zr f b)), false, false, false, false, ()), ())
  else if inff f a || inff f b then
    (if inff f c && !(sg f c == !(sg f a == sg f b)) then (NN f, (true, false, false, false, false, ()), ()) else (sgn f (!(sg f a == sg f b)) + IN f, EXC0, ()))
  else if inff f c then (sgn f (sg f c) + IN f, EXC0, ())
  else sumS f mode (!(sg f a == sg f b)) (xp f a + xp f b) (sig f a * sig f b) (sg f c) (xp f c) (sig f c)
theorem sig_48 (f a : Int) : 0 ≤ sig f a ∧ sig f a < 2 ^ 48 := by
  have A := sig_bd f a
  have fb := fmt_bd f
  have : (2 : Int) ^ 48 = 281474976710656 := rfl
  omega
theorem fma_eq (f mode : Int) {a b c : Int} (ha : w32 a) (hb : w32 b) (hc : w32 c) : F_960 f mode a b c = some (fmaS f mode a b c) := by
  have sm := sig_mul f a b
  have xa := xp_bd f a
  have xb := xp_bd f b
  have xc := xp_bd f c
  have hs := psum_eq f mode (!(sg f a == sg f b)) (sg f c) (N := sig f a * sig f b) (M := sig f c) ⟨sm.1.1, sm.2⟩ (sig_48 f c) (show -298 ≤ xp f a + xp f b ∧ xp f a + xp f b ≤ 300 by omega) (show -298 ≤ xp f c ∧ xp f c ≤ 300 by omega)
  unfold F_960 F_991 F_978 F_967 F_978 fmaS
  rw [snans_eq f [a, b, c] (by simp) (by simpa using ⟨ha, hb, hc⟩), torn_eq f ha hb, neg_eq f ha, neg_eq f hb, neg_eq f hc, isinf_eq f ha, isinf_eq f hb, isinf_eq f hc, of_eq f ha, of_eq f hb, of_eq f hc, nan_w]
  simp only [Option.bind_some, List.any_cons, List.any_nil, Bool.or_false, inf_eq]
  rw [wu64 (n := sig f a * sig f b) (by have := sm.1; omega), wi64 (n := xp f a + xp f b) (by omega), hs]
  generalize sumS f mode (!(sg f a == sg f b)) (xp f a + xp f b) (sig f a * sig f b) (sg f c) (xp f c) (sig f c) = W
  have hx : ∀ p q : Bool, (!(p == q)) = (!(q == p)) := by decide
  rcases cls f a with ⟨a1, a3, a4⟩ | ⟨a1, a2, a3, a4⟩ | ⟨a1, a2, a3, a4⟩ | ⟨a1, a2, a3, a4⟩ <;> rcases cls f b with ⟨b1, b3, b4⟩ | ⟨b1, b2, b3, b4⟩ | ⟨b1, b2, b3, b4⟩ | ⟨b1, b2, b3, b4⟩ <;> rcases cls f c with ⟨c1, c3, c4⟩ | ⟨c1, c2, c3, c4⟩ | ⟨c1, c2, c3, c4⟩ | ⟨c1, c2, c3, c4⟩ <;> simp only [a1, a3, a4, b1, b3, b4, c1, c4] <;> first | rfl | (cases loud f a <;> cases loud f b <;> cases loud f c <;> rfl) | (cases sg f a <;> cases sg f b <;> cases sg f c <;> rfl)
end Go.Proofs.YtkmkhcmfpbffjaaGreat.VI
