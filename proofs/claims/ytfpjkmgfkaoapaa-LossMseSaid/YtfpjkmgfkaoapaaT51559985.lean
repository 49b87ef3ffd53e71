import Derived.Test.YtfpjkmgfkaoapaaT473757c6
namespace Go.Proofs.Ytfpjkmgfkaoapaa.VI
set_option linter.unusedVariables false
set_option linter.unusedSimpArgs false
set_option maxRecDepth 100000
set_option maxHeartbeats 4000000
abbrev TsT : Type := Int × Int × Int × List Int × Unit
abbrev wl (l : List Int) : Prop := ∀ a ∈ l, w32 a
theorem wl_get {l : List Int} (h : wl l) (i : Nat) : w32 (l.getD i 0) := by
  rw [List.getD_eq_getElem?_getD]
  cases e : l[i]? with
  | none => exact ⟨by decide, by decide⟩
  | some a => exact h a (List.mem_of_getElem? e)
def knownS (f : Int) : Bool := decide (f = 0 ∨ f = 1 ∨ f = 2)
def fits (f v : Int) : Bool := decide (v < 2 * TT f)
def rightS (t : TsT) : Bool := decide (0 ≤ t.1 ∧ t.1 ≤ 4096 ∧ 0 ≤ t.2.1 ∧ t.2.1 ≤ 4096) && (knownS t.2.2.1 && (decide ((t.2.2.2.1.length : Int) = t.1 * t.2.1) && t.2.2.2.1.all (fits t.2.2.1)))
theorem known_t (f : Int) : F_937 f = some (knownS f) := by
  unfold F_937 knownS
  rw [bif_eq, bif_eq]
  by_cases h0 : f = 0
  · simp [h0]
  · by_cases h1 : f = 1
    · simp [h1]
    · simp only [if_neg h0, if_neg h1]
      congr 1; rw [Bool.eq_iff_iff]; simp [h0, h1]
theorem nat_hi (y : Nat) (h : y < 2 ^ 32) : y &&& (4294967295 - 65535) = 0 ↔ y < 65536 := by
  constructor
  · intro k
    have e : (y &&& (4294967295 - 65535)) >>> 16 = (y >>> 16) &&& 65535 := by rw [Nat.shiftRight_and_distrib]; rfl
    rw [k] at e
    have e2 : (y >>> 16) &&& 65535 = (y >>> 16) % 65536 := Nat.and_two_pow_sub_one_eq_mod _ 16
    rw [e2, Nat.shiftRight_eq_div_pow] at e
    simp at e
    omega
  · intro k
    apply Nat.eq_of_testBit_eq
    intro i
    rw [Nat.testBit_and, Nat.zero_testBit]
    by_cases hi : i < 16
    · have : Nat.testBit (4294967295 - 65535) i = false := by
        rw [show 4294967295 - 65535 = 2 ^ 16 * 65535 by rfl, Nat.testBit_two_pow_mul]; simp; omega
      rw [this, Bool.and_false]
    · have : y.testBit i = false := Nat.testBit_lt_two_pow (Nat.lt_of_lt_of_le (show y < 2 ^ 16 from k) (Nat.pow_le_pow_right (by omega) (by omega)))
      rw [this, Bool.false_and]
theorem andNot_fits (f : Int) {v : Int} (h : w32 v) : (bits .andNot .u32 v (2 * TT f - 1) != 0) = !(fits f v) := by
  unfold fits
  rcases TT_cs f with e | e <;> rw [e]
  · rw [show (2 * 32768 - 1 : Int) = 65535 from rfl, u32_andNot _ _ h.1 h.2 (by omega) (by omega)]
    have := nat_hi v.toNat (by omega)
    rw [show (65535 : Int).toNat = 65535 from rfl, Bool.eq_iff_iff]
    simp only [bne_iff_ne, Bool.not_eq_true', decide_eq_false_iff_not]
    have h2 : ((v.toNat &&& (4294967295 - 65535) : Nat) : Int) ≠ 0 ↔ ¬ (v.toNat &&& (4294967295 - 65535)) = 0 := by omega
    rw [h2, this]; omega
  · rw [show (2 * 2147483648 - 1 : Int) = 4294967295 from rfl, u32_andNot _ _ h.1 h.2 (by omega) (by omega)]
    rw [show (4294967295 : Int).toNat = 4294967295 from rfl, Nat.sub_self, Nat.and_zero]
    have : decide (v < 2 * 2147483648) = true := by simp; omega
    rw [this]; rfl
theorem first_or (p : Nat → Bool) (n : Nat) : (∀ i, i < n → p i = false) ∨ ∃ k, k < n ∧ (∀ i, i < k → p i = false) ∧ p k = true := by
  induction n with
  | zero => left; intro i h; omega
  | succ n ih =>
    rcases ih with h | ⟨k, h1, h2, h3⟩
    · cases hp : p n with
      | false => left; intro i hi; by_cases e : i = n
                 · rw [e]; exact hp
                 · exact h i (by omega)
      | true => right; exact ⟨n, by omega, h, hp⟩
    · right; exact ⟨k, by omega, h2, h3⟩
theorem all_get {l : List Int} {p : Int → Bool} : l.all p = true ↔ ∀ i, i < l.length → p (l.getD i 0) = true := by
  rw [List.all_eq_true]
  constructor
  · intro h i hi; rw [gtd hi]; exact h _ (List.getElem_mem hi)
  · intro h a ha
    obtain ⟨i, hi, rfl⟩ := List.getElem_of_mem ha
    have := h i hi; rwa [gtd hi] at this
theorem index_eq (l : List Int) (b : TsT) (hl : wl l) (hn : l.length < 4611686018427387904) :
    ∃ r, F_965 l b = some (r, (b, ())) ∧ (r ≥ 0 ↔ ¬ l.all (fits b.2.2.1) = true) := by
  obtain ⟨b1, b2, b3, b4, ⟨⟩⟩ := b
  unfold F_965
  dsimp only
  simp only [List.take_length]
  have step : ∀ i, i < l.length → fits b3 (l.getD i 0) = true → ∀ R kn ko, st_965_0 R ((l, ((l.length : Int), ((i : Int), ()))), ((b1, (b2, (b3, (b4, ())))), ())) kn ko = kn ((l, ((l.length : Int), (((i + 1 : Nat) : Int), ()))), ((b1, (b2, (b3, (b4, ())))), ())) := by
    intro i hi hf R kn ko
    unfold st_965_0 F_939
    dsimp only
    simp only [List.take_length, bif_dec]
    rw [if_pos (by omega), if_pos (by omega), Int.toNat_natCast, mask_eq]
    simp only [Option.bind_some]
    rw [andNot_fits b3 (wl_get hl i), hf, wi64 (by omega), show ((i + 1 : Nat) : Int) = (i : Int) + 1 by omega]; rfl
  rcases first_or (fun i => !(fits b3 (l.getD i 0))) l.length with h | ⟨k, h1, h2, h3⟩
  · have := lim_seq (st := st_965_0) (fun i => ((l, ((l.length : Int), ((i : Int), ()))), ((b1, (b2, (b3, (b4, ())))), ()))) (b := Sum.inl ((), ((b1, (b2, (b3, (b4, ())))), ()))) l.length
      (fun i hi R kn ko => step i hi (by simpa using h i hi) R kn ko)
      (fun R kn ko => by
        unfold st_965_0
        dsimp only
        simp only [List.take_length, bif_dec]
        rw [if_neg (by omega)])
    have e : lim st_965_0 ((l, ((l.length : Int), ((0 : Int), ()))), ((b1, (b2, (b3, (b4, ())))), ())) = _ := this
    rw [e]
    refine ⟨-1, by simp only [Option.bind_some, els, List.take_length], ?_⟩
    have ha : l.all (fits b3) = true := all_get.2 fun i hi => by simpa using h i hi
    simp [ha]
  · have := lim_seq (st := st_965_0) (fun i => ((l, ((l.length : Int), ((i : Int), ()))), ((b1, (b2, (b3, (b4, ())))), ()))) (b := Sum.inr (((k : Int), ()), ((b1, (b2, (b3, (b4, ())))), ()))) k
      (fun i hi R kn ko => step i (by omega) (by simpa using h2 i hi) R kn ko)
      (fun R kn ko => by
        unfold st_965_0 F_939
        dsimp only
        simp only [List.take_length, bif_dec]
        rw [if_pos (by omega), if_pos (by omega), Int.toNat_natCast, mask_eq]
        simp only [Option.bind_some]
        rw [andNot_fits b3 (wl_get hl k), h3]; rfl)
    have e : lim st_965_0 ((l, ((l.length : Int), ((0 : Int), ()))), ((b1, (b2, (b3, (b4, ())))), ())) = _ := this
    rw [e]
    refine ⟨(k : Int), by simp only [Option.bind_some, els, List.take_length], ?_⟩
    have ha : ¬ l.all (fits b3) = true := fun h => by
      have q := all_get.1 h k h1; rw [q] at h3; cases h3
    exact ⟨fun _ => ha, fun _ => by omega⟩
theorem right_eq (t : TsT) (hl : wl t.2.2.2.1) (hn : t.2.2.2.1.length < 4611686018427387904) : F_91c t = some (rightS t) := by
  obtain ⟨a, b, f, l, ⟨⟩⟩ := t
  simp only at hl hn
  obtain ⟨r, hr, hr2⟩ := index_eq l (a, b, f, l, ()) hl hn
  unfold F_91c rightS F_966
  dsimp only
  simp only [List.take_length, bif_dec, known_t, Option.bind_some, hr, bif_ne]
  by_cases h1 : 0 ≤ a ∧ a ≤ 4096 ∧ 0 ≤ b ∧ b ≤ 4096
  · rw [if_neg (by omega), if_neg (by omega), if_neg (by omega), if_neg (by omega), decide_eq_true h1]
    have hm : IntKind.i64.wrap (a * b) = a * b := by
      have : 0 ≤ a * b := Int.mul_nonneg h1.1 h1.2.2.1
      have : a * b ≤ 4096 * 4096 := Int.mul_le_mul h1.2.1 h1.2.2.2 h1.2.2.1 (by omega)
      exact wi64 (by omega)
    rw [hm]
    cases knownS f
    · rfl
    · by_cases h2 : (l.length : Int) = a * b
      · rw [if_pos h2, decide_eq_true h2]
        simp only [Bool.not_true, cond_false, Bool.true_and]
        congr 1
        have hb : decide (r ≥ 0) = !(l.all (fits f)) := by
          rw [Bool.eq_iff_iff, decide_eq_true_eq, hr2]; simp
        rw [hb]; simp
      · rw [if_neg h2, decide_eq_false h2]; rfl
  · rw [decide_eq_false h1]
    by_cases k1 : a < 0
    · rw [if_pos k1]; rfl
    rw [if_neg k1]
    by_cases k2 : a > 4096
    · rw [if_pos k2]; rfl
    rw [if_neg k2]
    by_cases k3 : b < 0
    · rw [if_pos k3]; rfl
    rw [if_neg k3, if_pos (by omega)]; rfl
abbrev wf (f a : Int) : Prop := 0 ≤ a ∧ a < 2 * TT f
theorem wf_w {f a : Int} (h : wf f a) : w32 a := ⟨h.1, by have := TT_cs f; omega⟩
theorem sgn_wf (f : Int) (n : Bool) {x : Int} (h : 0 ≤ x ∧ x < TT f) : wf f (sgn f n + x) := by
  have := sgn_bd f n
  have := TT_cs f
  exact ⟨by omega, by omega⟩
theorem over_wf (f mode : Int) (n : Bool) : wf f (overS f mode n) := by
  have ib := IN_bd f
  have fb := fmt_bd f
  unfold overS
  split
  · exact sgn_wf f n (by omega)
  · exact sgn_wf f n (by omega)
theorem fin2_wf (f mode : Int) (n : Bool) (u q : Int) (h r s : Bool) (hq : 0 ≤ q) (hq2 : q ≤ 2 * BB f) (hu : le f - MM f ≤ u) : wf f (fin2 f mode n u q h r s).1 := by
  have fb := fmt_bd f
  have ib := IN_bd f
  unfold fin2
  have hq3 : 0 ≤ (if q / (2 * BB f) = 0 then q else q / 2) := by split <;> omega
  generalize (if q / (2 * BB f) = 0 then q else q / 2) = q2 at *
  have hu2 : le f - MM f ≤ (if q / (2 * BB f) = 0 then u else u + 1) := by split <;> omega
  generalize (if q / (2 * BB f) = 0 then u else u + 1) = u2 at *
  have ha : 0 ≤ (if q2 / BB f = 0 then 0 else u2 + MM f - le f + 1) := by split <;> omega
  generalize (if q2 / BB f = 0 then 0 else u2 + MM f - le f + 1) = a at *
  have hm : 0 ≤ q2 % BB f ∧ q2 % BB f < BB f := by rcases fb.2.1 with h | h | h <;> rw [h] <;> omega
  by_cases o : a ≥ RR f - 1
  · rw [if_pos o]; exact over_wf f mode n
  · rw [if_neg o]
    show wf f (sgn f n + a * BB f + q2 % BB f)
    rw [Int.add_assoc]
    apply sgn_wf
    have h1 : (a + 1) * BB f ≤ RR f * BB f := Int.mul_le_mul_of_nonneg_right (by omega) (by omega)
    rw [Int.add_mul, ← TT_RB] at h1
    have h2 : 0 ≤ a * BB f := Int.mul_nonneg ha (by omega)
    omega
theorem pk_wf (f mode : Int) (n : Bool) (e N : Int) (m : Bool) (hN : 0 ≤ N) : wf f (pk f mode n e N m).1 := by
  have fb := fmt_bd f
  have hq := q_bd f e N hN
  unfold pk
  split
  · have := sgn_wf f n (x := 0) (by omega); simpa using this
  · refine fin2_wf f mode n _ _ _ _ _ ?_ ?_ ?_
    · unfold fin1; split <;> omega
    · unfold fin1; split <;> omega
    · unfold unitS; split <;> omega
theorem tot_wf (f mode T : Int) : wf f (totS f mode T).1 := by
  have fb := fmt_bd f
  unfold totS
  split
  · have := sgn_wf f (decide (mode = 3)) (x := 0) (by omega); simpa using this
  · exact pk_wf _ _ _ _ _ _ (by split <;> omega)
theorem NN_wf (f : Int) : wf f (NN f) := by
  have ib := IN_bd f
  have fb := fmt_bd f
  unfold NN; exact ⟨by omega, by omega⟩
theorem infs_wf (f : Int) (n : Bool) : wf f (sgn f n + IN f) := by
  have ib := IN_bd f
  have fb := fmt_bd f
  exact sgn_wf f n (by omega)
theorem sum_wf (f mode : Int) (n : Bool) (e N : Int) (m : Bool) (d M : Int) : wf f (sumS f mode n e N m d M).1 := by
  have fb := fmt_bd f
  unfold sumS
  split
  · have := sgn_wf f n (x := 0) (by omega); simpa using this
  · exact tot_wf _ _ _
theorem fma_wf (f mode a b c : Int) : wf f (fmaS f mode a b c).1 := by
  unfold fmaS
  split
  · exact NN_wf f
  · split
    · split
      · exact NN_wf f
      · exact infs_wf f _
    · split
      · exact infs_wf f _
      · exact sum_wf _ _ _ _ _ _ _ _
theorem mul_wf (f mode a b : Int) : wf f (mulS f mode a b).1 := by
  unfold mulS
  split
  · exact NN_wf f
  · split
    · exact NN_wf f
    · split
      · exact infs_wf f _
      · exact pk_wf _ _ _ _ _ _ (sig_mul f a b).1.1
def fma (a b c : Int) : Int := (fmaS 2 0 a b c).1
theorem fma_w (a b c : Int) : w32 (fma a b c) := wf_w (fma_wf 2 0 a b c)
theorem ffma_eq {a b c : Int} (ha : w32 a) (hb : w32 b) (hc : w32 c) : F_9e a b c = some (fma a b c) := by
  unfold F_9e; rw [fma_eq 2 0 ha hb hc]; rfl
def toS (f g mode a : Int) : Int × ExcT × Unit :=
  if nan f a then (NN g, (loud f a, false, false, false, false, ()), ())
  else if inff f a then (sgn g (sg f a) + IN g, EXC0, ())
  else pk g mode (sg f a) (xp f a) (sig f a) false
theorem sig_w64 (f a : Int) : w64 (sig f a) := by
  have A := sig_bd f a
  have fb := fmt_bd f
  exact ⟨A.1, by omega⟩
theorem to_eq (f g mode : Int) {a : Int} (ha : w32 a) : F_93b f g mode a = some (toS f g mode a) := by
  have xa := xp_bd f a
  have k1 := kl_nan f a
  have k3 := kl_inf f a
  have kb := kl_le f a
  unfold F_93b F_941 toS
  rw [class_eq f ha.1 ha.2, nan_w, neg_eq f ha, of_eq f ha]
  simp only [Option.bind_some, bif_eq, inf_eq]
  rw [pack_eq g mode _ _ (sig_w64 f a), show min (max (xp f a) (-10000)) 10000 = xp f a by omega]
  simp only [Option.bind_some]
  by_cases h4 : kl f a = 4
  · have hn : nan f a = true := by unfold nan; simp; exact k1.1 (by omega)
    have hl : loud f a = false := by unfold loud; simp; omega
    rw [if_pos h4, hn, hl]; rfl
  rw [if_neg h4]
  by_cases h5 : kl f a = 5
  · have hn : nan f a = true := by unfold nan; simp; exact k1.1 (by omega)
    have hl : loud f a = true := by unfold loud; simp; omega
    rw [if_pos h5, hn, hl]; rfl
  rw [if_neg h5]
  have hn : nan f a = false := by
    unfold nan; apply decide_eq_false; intro k; have := k1.2 k; omega
  rw [hn]
  by_cases h3 : kl f a = 3
  · have hi : inff f a = true := by unfold inff; simp; exact k3.1 h3
    rw [if_pos h3, hi]; rfl
  · have hi : inff f a = false := by unfold inff; apply decide_eq_false; intro k; exact h3 (k3.2 k)
    rw [if_neg h3, hi]; rfl
def widen (f a : Int) : Int := (toS f 2 0 a).1
theorem to_wf (f g mode a : Int) : wf g (toS f g mode a).1 := by
  unfold toS
  split
  · exact NN_wf g
  · split
    · exact infs_wf g _
    · exact pk_wf _ _ _ _ _ _ (sig_bd f a).1
theorem widen_w (f a : Int) : w32 (widen f a) := wf_w (to_wf f 2 0 a)
theorem widen_eq (f : Int) {a : Int} (ha : w32 a) : F_91f f a = some (widen f a) := by
  unfold F_91f; rw [to_eq f 2 0 ha]; rfl
def addS (f mode a b : Int) : Int × ExcT × Unit :=
  if nan f a || nan f b then (NN f, (loud f a || loud f b, false, false, false, false, ()), ())
  else if inff f a && (inff f b && !(sg f a == sg f b)) then (NN f, (true, false, false, false, false, ()), ())
  else if inff f a then (sgn f (sg f a) + IN f, EXC0, ())
  else if inff f b then (sgn f (sg f b) + IN f, EXC0, ())
  else sumS f mode (sg f a) (xp f a) (sig f a) (sg f b) (xp f b) (sig f b)
theorem add_eq (f mode : Int) {a b : Int} (ha : w32 a) (hb : w32 b) : F_924 f mode a b = some (addS f mode a b) := by
  have xa := xp_bd f a
  have xb := xp_bd f b
  have hs := psum_eq f mode (sg f a) (sg f b) (N := sig f a) (M := sig f b) (sig_48 f a) (sig_48 f b) (show -298 ≤ xp f a ∧ xp f a ≤ 300 by omega) (show -298 ≤ xp f b ∧ xp f b ≤ 300 by omega)
  unfold F_924 F_942 F_941 addS
  rw [snans_eq f [a, b] (by simp) (by simpa using ⟨ha, hb⟩), neg_eq f ha, neg_eq f hb, isinf_eq f ha, isinf_eq f hb, of_eq f ha, of_eq f hb, nan_w]
  simp only [Option.bind_some, List.any_cons, List.any_nil, Bool.or_false, inf_eq]
  rw [hs]
  generalize sumS f mode (sg f a) (xp f a) (sig f a) (sg f b) (xp f b) (sig f b) = W
  rcases cls f a with ⟨a1, a3, a4⟩ | ⟨a1, a2, a3, a4⟩ | ⟨a1, a2, a3, a4⟩ | ⟨a1, a2, a3, a4⟩ <;> rcases cls f b with ⟨b1, b3, b4⟩ | ⟨b1, b2, b3, b4⟩ | ⟨b1, b2, b3, b4⟩ | ⟨b1, b2, b3, b4⟩ <;> simp only [a1, a3, a4, b1, b3, b4] <;> first | rfl | (cases sg f a <;> cases sg f b <;> rfl)
theorem add_wf (f mode a b : Int) : wf f (addS f mode a b).1 := by
  unfold addS
  split
  · exact NN_wf f
  · split
    · exact NN_wf f
    · split
      · exact infs_wf f _
      · split
        · exact infs_wf f _
        · exact sum_wf _ _ _ _ _ _ _ _
def addf (a b : Int) : Int := (addS 2 0 a b).1
theorem addf_w (a b : Int) : w32 (addf a b) := wf_w (add_wf 2 0 a b)
theorem fadd_eq {a b : Int} (ha : w32 a) (hb : w32 b) : F_910 a b = some (addf a b) := by
  unfold F_910; rw [add_eq 2 0 ha hb]; rfl
def lay1 (h : Nat → Int) (n i : Nat) : List Int := (List.range i).map h ++ List.replicate (n - i) 0
theorem lay1_len (h : Nat → Int) {n i : Nat} (hi : i ≤ n) : (lay1 h n i).length = n := by unfold lay1; simp; omega
theorem lay1_set (h : Nat → Int) {n i : Nat} (hi : i < n) : (lay1 h n i).set i (h i) = lay1 h n (i + 1) := by
  unfold lay1
  rw [List.set_append, if_neg (by simp), List.range_succ, List.map_append, List.append_assoc]
  congr 1
  rw [List.length_map, List.length_range, Nat.sub_self, show n - i = (n - (i + 1)) + 1 by omega, List.replicate_succ]
  rfl
theorem lay1_zero (h : Nat → Int) (n : Nat) : lay1 h n 0 = List.replicate n 0 := by unfold lay1; simp
theorem lay1_all (h : Nat → Int) (n : Nat) : lay1 h n n = (List.range n).map h := by unfold lay1; simp
theorem range_wl {h : Nat → Int} {n : Nat} (w : ∀ i, w32 (h i)) : wl ((List.range n).map h) := by
  intro a ha; obtain ⟨i, _, rfl⟩ := List.mem_map.1 ha; exact w i
theorem eachW_eq (t b : TsT) (g : Int) (hl : wl t.2.2.2.1) (hn : t.2.2.2.1.length ≤ 1073741824) :
    F_967 t g b = some ((t.1, t.2.1, g, (List.range t.2.2.2.1.length).map (fun i => widen b.2.2.1 (t.2.2.2.1.getD i 0)), ()), (b, ())) := by
  obtain ⟨r, c, f, l, ⟨⟩⟩ := t
  obtain ⟨b1, b2, b3, b4, ⟨⟩⟩ := b
  simp only at hl hn ⊢
  have := lim_seq (st := st_967_0) (fun i => ((l, ((l.length : Int), ((i : Int), ()))), ((b1, (b2, (b3, (b4, ())))), (((0:Int), ((0:Int), ((0:Int), ()))), ((r, (c, (g, (l.length, ())))), (lay1 (fun i => widen b3 (l.getD i 0)) l.length i, ()))))))
    (b := ((), ((b1, (b2, (b3, (b4, ())))), (((0:Int), ((0:Int), ((0:Int), ()))), ((r, (c, (g, (l.length, ())))), (lay1 (fun i => widen b3 (l.getD i 0)) l.length l.length, ())))))) l.length
    (fun i hi R kn ko => by
      have hll := lay1_len (fun i => widen b3 (l.getD i 0)) (Nat.le_of_lt hi)
      have hls := lay1_set (fun i => widen b3 (l.getD i 0)) hi
      unfold st_967_0 F_91e
      dsimp only at hls ⊢
      simp only [List.take_length, bif_dec, hll, Int.toNat_natCast]
      rw [if_pos (by omega), if_pos (by omega), widen_eq b3 (wl_get hl i)]
      simp only [Option.bind_some]
      rw [if_pos (by omega), if_pos (by omega), show 0 + i * 1 = i by omega, hls, wi64 (by omega), show ((i + 1 : Nat) : Int) = (i : Int) + 1 by omega])
    (fun R kn ko => by
      unfold st_967_0
      dsimp only
      simp only [List.take_length, bif_dec]
      rw [if_neg (by omega)])
  rw [lay1_zero] at this
  unfold F_967
  dsimp only
  simp only [List.take_length, bif_dec, Int.toNat_natCast]
  rw [if_pos (by omega)]
  have e : lim st_967_0 ((l, ((l.length : Int), ((0 : Int), ()))), ((b1, (b2, (b3, (b4, ())))), (((0:Int), ((0:Int), ((0:Int), ()))), ((r, (c, (g, (l.length, ())))), (List.replicate l.length 0, ()))))) = _ := this
  rw [e]
  simp only [Option.bind_some, List.take_length, List.drop_zero, lay1_all]
  have hlen : ((List.range l.length).map (fun i => widen b3 (l.getD i 0))).length = l.length := by simp
  rw [List.take_of_length_le (by omega)]
def wideL (t : TsT) : List Int := (List.range t.2.2.2.1.length).map (fun i => widen t.2.2.1 (t.2.2.2.1.getD i 0))
abbrev noT : TsT := (0, 0, 0, [], ())
theorem wide_eq (t : TsT) (hl : wl t.2.2.2.1) (hn : t.2.2.2.1.length ≤ 1073741824) :
    F_9b t = some (if rightS t then ((t.1, t.2.1, 2, wideL t, ()), 0, ()) else (noT, 21, ())) := by
  obtain ⟨r, c, f, l, ⟨⟩⟩ := t
  simp only at hl hn
  unfold F_9b
  dsimp only
  simp only [List.take_length]
  rw [right_eq (r, c, f, l, ()) hl (by simp only; omega), eachW_eq (r, c, f, l, ()) (r, c, f, l, ()) 2 hl hn]
  simp only [Option.bind_some, List.take_length]
  cases rightS (r, c, f, l, ()) <;> rfl
abbrev gl (l : List Int) (i : Nat) : Int := l.getD i 0
def rowL (l : List Int) (C i : Nat) : List Int := (l.drop (i * C)).take C
theorem rowL_len {l : List Int} {R C i : Nat} (hl : l.length = R * C) (hi : i < R) : (rowL l C i).length = C := by
  have : (i + 1) * C ≤ R * C := Nat.mul_le_mul_right _ hi
  rw [Nat.add_mul] at this
  unfold rowL; simp; omega
theorem rowL_wl {l : List Int} {C i : Nat} (h : wl l) : wl (rowL l C i) := fun a ha => h a (List.mem_of_mem_drop (List.mem_of_mem_take ha))
theorem rc_bd {R C : Nat} (hR : R ≤ 4096) (hC : C ≤ 4096) : R * C ≤ 16777216 := Nat.mul_le_mul hR hC
theorem right_nat {a b f : Int} {l : List Int} (h : rightS (a, b, f, l, ()) = true) : ∃ R C : Nat, a = R ∧ b = C ∧ R ≤ 4096 ∧ C ≤ 4096 ∧ l.length = R * C ∧ knownS f = true ∧ l.all (fits f) = true := by
  unfold rightS at h
  simp only [Bool.and_eq_true, decide_eq_true_eq] at h
  obtain ⟨⟨h1, h2, h3, h4⟩, h5, h6, h7⟩ := h
  refine ⟨a.toNat, b.toNat, by omega, by omega, by omega, by omega, ?_, h5, h7⟩
  have e : ((l.length : Nat) : Int) = ((a.toNat * b.toNat : Nat) : Int) := by
    rw [h6]; push_cast; rw [Int.toNat_of_nonneg h1, Int.toNat_of_nonneg h3]
  exact_mod_cast e
theorem right_mk {R C : Nat} {f : Int} {l : List Int} (hR : R ≤ 4096) (hC : C ≤ 4096) (hl : l.length = R * C) (hf : knownS f = true) (ha : l.all (fits f) = true) : rightS ((R : Int), (C : Int), f, l, ()) = true := by
  unfold rightS
  simp only [Bool.and_eq_true, decide_eq_true_eq]
  refine ⟨⟨by omega, by omega, by omega, by omega⟩, hf, ?_, ha⟩
  rw [hl]; simp
theorem wideL_len (t : TsT) : (wideL t).length = t.2.2.2.1.length := by unfold wideL; simp
theorem wideL_wl (t : TsT) : wl (wideL t) := range_wl fun i => widen_w _ _
end Go.Proofs.Ytfpjkmgfkaoapaa.VI
