import Derived.Test.YtfpjkmgfkaoapaaGreatT6c8d02dd
namespace Go.Proofs.YtfpjkmgfkaoapaaGreat.VI
set_option linter.unusedVariables false
set_option linter.unusedSimpArgs false
set_option maxRecDepth 100000
set_option maxHeartbeats 4000000
abbrev TsT : Type := Int × Int × Int × List Int × Unit
abbrev wl (l : List Int) : Prop := ∀ a ∈ l, w32 a
theorem wl_ok {l : List Int} (h : ∀ a ∈ l, inR .u32 a) : wl l := fun a ha => ⟨(h a ha).1, Int.lt_add_one_of_le (h a ha).2⟩
theorem wl_get {l : List Int} (h : wl l) (i : Nat) : w32 (l.getD i 0) := by
  rw [List.getD_eq_getElem?_getD]
  cases e : l[i]? with
  | none => exact ⟨by decide, by decide⟩
  | some a => exact h a (List.mem_of_getElem? e)
def knownS (f : Int) : Bool := decide (f = 0 ∨ f = 1 ∨ f = 2)
def fits (f v : Int) : Bool := decide (v < 2 * TT f)
def rightS (t : TsT) : Bool := decide (0 ≤ t.1 ∧ t.1 ≤ 4096 ∧ 0 ≤ t.2.1 ∧ t.2.1 ≤ 4096) && (knownS t.2.2.1 && (decide ((t.2.2.2.1.length : Int) = t.1 * t.2.1) && t.2.2.2.1.all (fits t.2.2.1)))
theorem known_t (f : Int) : F_95a f = some (knownS f) := by
  unfold F_95a knownS
  rw [bif_eq, bif_eq]
  by_cases h0 : f = 0
  · simp [h0]
  · by_cases h1 : f = 1
    · simp [h1]
    · simp only [if_neg h0, if_neg h1]
      congr 1; rw [Bool.eq_iff_iff]; simp [h0, h1]
theorem known_r (f : Int) : F_959 f = some (knownS f) := known_t f
theorem nat_hi (y : Nat) (h : y < 2 ^ 32) : y &&& (4294967295 - 65535) = 0 ↔ y < 65536 := by
  constructor
  · intro k
    have e : (y &&& (4294967295 - 65535)) >>> 16 = (y >>> 16) &&& 65535 := by rw [Nat.shiftRight_and_distrib]; rfl
    rw [k] at e
    have e2 : (y >>> 16) &&& 65535 = (y >>> 16) % 65536 := Nat.and_two_pow_sub_one_eq_mod _ 16
    rw [e2, Nat.shiftRight_eq_div_pow] at e
    simp at e
    omega
  · intro k
    apply Nat.eq_of_testBit_eq
    intro i
    rw [Nat.testBit_and, Nat.zero_testBit]
    by_cases hi : i < 16
    · have : Nat.testBit (4294967295 - 65535) i = false := by
        rw [show 4294967295 - 65535 = 2 ^ 16 * 65535 by rfl, Nat.testBit_two_pow_mul]; simp; omega
      rw [this, Bool.and_false]
    · have : y.testBit i = false := Nat.testBit_lt_two_pow (Nat.lt_of_lt_of_le (show y < 2 ^ 16 from k) (Nat.pow_le_pow_right (by omega) (by omega)))
      rw [this, Bool.false_and]
theorem andNot_fits (f : Int) {v : Int} (h : w32 v) : (bits .andNot .u32 v (2 * TT f - 1) != 0) = !(fits f v) := by
  unfold fits
  rcases TT_cs f with e | e <;> rw [e]
  · rw [show (2 * 32768 - 1 : Int) = 65535 from rfl, u32_andNot _ _ h.1 h.2 (by omega) (by omega)]
    have := nat_hi v.toNat (by omega)
    rw [show (65535 : Int).toNat = 65535 from rfl, Bool.eq_iff_iff]
    simp only [bne_iff_ne, Bool.not_eq_true', decide_eq_false_iff_not]
    have h2 : ((v.toNat &&& (4294967295 - 65535) : Nat) : Int) ≠ 0 ↔ ¬ (v.toNat &&& (4294967295 - 65535)) = 0 := by omega
    rw [h2, this]; omega
  · rw [show (2 * 2147483648 - 1 : Int) = 4294967295 from rfl, u32_andNot _ _ h.1 h.2 (by omega) (by omega)]
    rw [show (4294967295 : Int).toNat = 4294967295 from rfl, Nat.sub_self, Nat.and_zero]
    have : decide (v < 2 * 2147483648) = true := by simp; omega
    rw [this]; rfl
theorem first_or (p : Nat → Bool) (n : Nat) : (∀ i, i < n → p i = false) ∨ ∃ k, k < n ∧ (∀ i, i < k → p i = false) ∧ p k = true := by
  induction n with
  | zero => left; intro i h; omega
  | succ n ih =>
    rcases ih with h | ⟨k, h1, h2, h3⟩
    · cases hp : p n with
      | false => left; intro i hi; by_cases e : i = n
                 · rw [e]; exact hp
                 · exact h i (by omega)
      | true => right; exact ⟨n, by omega, h, hp⟩
    · right; exact ⟨k, by omega, h2, h3⟩
theorem all_get {l : List Int} {p : Int → Bool} : l.all p = true ↔ ∀ i, i < l.length → p (l.getD i 0) = true := by
  rw [List.all_eq_true]
  constructor
  · intro h i hi; rw [gtd hi]; exact h _ (List.getElem_mem hi)
  · intro h a ha
    obtain ⟨i, hi, rfl⟩ := List.getElem_of_mem ha
    have := h i hi; rwa [gtd hi] at this
theorem index_eq (l : List Int) (b : TsT) (hl : wl l) (hn : l.length < 4611686018427387904) :
    ∃ r, F_9b6 l b = some (r, (b, ())) ∧ (r ≥ 0 ↔ ¬ l.all (fits b.2.2.1) = true) := by
  obtain ⟨b1, b2, b3, b4, ⟨⟩⟩ := b
  unfold F_9b6
  dsimp only
  simp only [List.take_length]
  have step : ∀ i, i < l.length → fits b3 (l.getD i 0) = true → ∀ R kn ko, st_9b6_0 R ((l, ((l.length : Int), ((i : Int), ()))), ((b1, (b2, (b3, (b4, ())))), ())) kn ko = kn ((l, ((l.length : Int), (((i + 1 : Nat) : Int), ()))), ((b1, (b2, (b3, (b4, ())))), ())) := by
    intro i hi hf R kn ko
    unfold st_9b6_0 F_95c
    dsimp only
    simp only [List.take_length, bif_dec]
    rw [if_pos (by omega), if_pos (by omega), Int.toNat_natCast, mask_eq]
    simp only [Option.bind_some]
    rw [andNot_fits b3 (wl_get hl i), hf, wi64 (by omega), show ((i + 1 : Nat) : Int) = (i : Int) + 1 by omega]; rfl
  rcases first_or (fun i => !(fits b3 (l.getD i 0))) l.length with h | ⟨k, h1, h2, h3⟩
  · have := lim_seq (st := st_9b6_0) (fun i => ((l, ((l.length : Int), ((i : Int), ()))), ((b1, (b2, (b3, (b4, ())))), ()))) (b := Sum.inl ((), ((b1, (b2, (b3, (b4, ())))), ()))) l.length
      (fun i hi R kn ko => step i hi (by simpa using h i hi) R kn ko)
      (fun R kn ko => by
        unfold st_9b6_0
        dsimp only
        simp only [List.take_length, bif_dec]
        rw [if_neg (by omega)])
    have e : lim st_9b6_0 ((l, ((l.length : Int), ((0 : Int), ()))), ((b1, (b2, (b3, (b4, ())))), ())) = _ := this
    rw [e]
    refine ⟨-1, by simp only [Option.bind_some, els, List.take_length], ?_⟩
    have ha : l.all (fits b3) = true := all_get.2 fun i hi => by simpa using h i hi
    simp [ha]
  · have := lim_seq (st := st_9b6_0) (fun i => ((l, ((l.length : Int), ((i : Int), ()))), ((b1, (b2, (b3, (b4, ())))), ()))) (b := Sum.inr (((k : Int), ()), ((b1, (b2, (b3, (b4, ())))), ()))) k
      (fun i hi R kn ko => step i (by omega) (by simpa using h2 i hi) R kn ko)
      (fun R kn ko => by
        unfold st_9b6_0 F_95c
        dsimp only
        simp only [List.take_length, bif_dec]
        rw [if_pos (by omega), if_pos (by omega), Int.toNat_natCast, mask_eq]
        simp only [Option.bind_some]
        rw [andNot_fits b3 (wl_get hl k), h3]; rfl)
    have e : lim st_9b6_0 ((l, ((l.length : Int), ((0 : Int), ()))), ((b1, (b2, (b3, (b4, ())))), ())) = _ := this
    rw [e]
    refine ⟨(k : Int), by simp only [Option.bind_some, els, List.take_length], ?_⟩
    have ha : ¬ l.all (fits b3) = true := fun h => by
      have q := all_get.1 h k h1; rw [q] at h3; cases h3
    exact ⟨fun _ => ha, fun _ => by omega⟩
theorem right_eq (t : TsT) (hl : wl t.2.2.2.1) (hn : t.2.2.2.1.length < 4611686018427387904) : F_927 t = some (rightS t) := by
  obtain ⟨a, b, f, l, ⟨⟩⟩ := t
  simp only at hl hn
  obtain ⟨r, hr, hr2⟩ := index_eq l (a, b, f, l, ()) hl hn
  unfold F_927 rightS F_9b7
  dsimp only
  simp only [List.take_length, bif_dec, known_t, Option.bind_some, hr, bif_ne]
  by_cases h1 : 0 ≤ a ∧ a ≤ 4096 ∧ 0 ≤ b ∧ b ≤ 4096
  · rw [if_neg (by omega), if_neg (by omega), if_neg (by omega), if_neg (by omega), decide_eq_true h1]
    have hm : IntKind.i64.wrap (a * b) = a * b := by
      have : 0 ≤ a * b := Int.mul_nonneg h1.1 h1.2.2.1
      have : a * b ≤ 4096 * 4096 := Int.mul_le_mul h1.2.1 h1.2.2.2 h1.2.2.1 (by omega)
      exact wi64 (by omega)
    rw [hm]
    cases knownS f
    · rfl
    · by_cases h2 : (l.length : Int) = a * b
      · rw [if_pos h2, decide_eq_true h2]
        simp only [Bool.not_true, cond_false, Bool.true_and]
        congr 1
        have hb : decide (r ≥ 0) = !(l.all (fits f)) := by
          rw [Bool.eq_iff_iff, decide_eq_true_eq, hr2]; simp
        rw [hb]; simp
      · rw [if_neg h2, decide_eq_false h2]; rfl
  · rw [decide_eq_false h1]
    by_cases k1 : a < 0
    · rw [if_pos k1]; rfl
    rw [if_neg k1]
    by_cases k2 : a > 4096
    · rw [if_pos k2]; rfl
    rw [if_neg k2]
    by_cases k3 : b < 0
    · rw [if_pos k3]; rfl
    rw [if_neg k3, if_pos (by omega)]; rfl
theorem rightr_eq (t : TsT) (hl : wl t.2.2.2.1) (hn : t.2.2.2.1.length < 4611686018427387904) : F_926 t = some (rightS t) := by
  obtain ⟨a, b, f, l, ⟨⟩⟩ := t
  simp only at hl hn
  have step : ∀ i, i < l.length → fits f (l.getD i 0) = true → ∀ R kn ko, st_926_0 R (((i : Int), ()), ((a, (b, (f, (l, ())))), ())) kn ko = kn ((((i + 1 : Nat) : Int), ()), ((a, (b, (f, (l, ())))), ())) := by
    intro i hi hf R kn ko
    unfold st_926_0
    dsimp only
    simp only [List.take_length, bif_dec]
    rw [if_pos (by omega), if_pos (by omega), Int.toNat_natCast, maskr_eq]
    simp only [Option.bind_some]
    rw [andNot_fits f (wl_get hl i), hf, wi64 (by omega), show ((i + 1 : Nat) : Int) = (i : Int) + 1 by omega]; rfl
  have hlim : ((lim st_926_0 (((0:Int), ()), ((a, (b, (f, (l, ())))), ()))).bind fun r4 => els (fun l5 => (some true)) (fun r6 => (some r6.1.1)) r4) = some (l.all (fits f)) := by
    rcases first_or (fun i => !(fits f (l.getD i 0))) l.length with h | ⟨k, h1, h2, h3⟩
    · have := lim_seq (st := st_926_0) (fun i => (((i : Int), ()), ((a, (b, (f, (l, ())))), ()))) (b := Sum.inl ((), ())) l.length
        (fun i hi R kn ko => step i hi (by simpa using h i hi) R kn ko)
        (fun R kn ko => by
          unfold st_926_0
          dsimp only
          simp only [bif_dec]
          rw [if_neg (by omega)])
      have e : lim st_926_0 (((0:Int), ()), ((a, (b, (f, (l, ())))), ())) = _ := this
      rw [e]
      have ha : l.all (fits f) = true := all_get.2 fun i hi => by simpa using h i hi
      rw [ha]; rfl
    · have := lim_seq (st := st_926_0) (fun i => (((i : Int), ()), ((a, (b, (f, (l, ())))), ()))) (b := Sum.inr ((false, ()), ())) k
        (fun i hi R kn ko => step i (by omega) (by simpa using h2 i hi) R kn ko)
        (fun R kn ko => by
          unfold st_926_0
          dsimp only
          simp only [bif_dec]
          rw [if_pos (by omega), if_pos (by omega), Int.toNat_natCast, maskr_eq]
          simp only [Option.bind_some]
          rw [andNot_fits f (wl_get hl k), h3]; rfl)
      have e : lim st_926_0 (((0:Int), ()), ((a, (b, (f, (l, ())))), ())) = _ := this
      rw [e]
      have ha : l.all (fits f) = false := by
        apply Bool.eq_false_iff.2; intro h
        have q := all_get.1 h k h1; rw [q] at h3; cases h3
      rw [ha]; rfl
  unfold F_926 rightS
  dsimp only
  simp only [List.take_length, bif_dec, known_r, Option.bind_some, hlim, bif_ne]
  by_cases h1 : 0 ≤ a ∧ a ≤ 4096 ∧ 0 ≤ b ∧ b ≤ 4096
  · rw [if_neg (by omega), if_neg (by omega), if_neg (by omega), if_neg (by omega), decide_eq_true h1]
    have hm : IntKind.i64.wrap (a * b) = a * b := by
      have : 0 ≤ a * b := Int.mul_nonneg h1.1 h1.2.2.1
      have : a * b ≤ 4096 * 4096 := Int.mul_le_mul h1.2.1 h1.2.2.2 h1.2.2.1 (by omega)
      exact wi64 (by omega)
    rw [hm]
    cases knownS f
    · rfl
    · by_cases h2 : (l.length : Int) = a * b
      · rw [if_pos h2, decide_eq_true h2]; rfl
      · rw [if_neg h2, decide_eq_false h2]; rfl
  · rw [decide_eq_false h1]
    by_cases k1 : a < 0
    · rw [if_pos k1]; rfl
    rw [if_neg k1]
    by_cases k2 : a > 4096
    · rw [if_pos k2]; rfl
    rw [if_neg k2]
    by_cases k3 : b < 0
    · rw [if_pos k3]; rfl
    rw [if_neg k3, if_pos (by omega)]; rfl
abbrev wf (f a : Int) : Prop := 0 ≤ a ∧ a < 2 * TT f
theorem wf_w {f a : Int} (h : wf f a) : w32 a := ⟨h.1, by have := TT_cs f; omega⟩
theorem sgn_wf (f : Int) (n : Bool) {x : Int} (h : 0 ≤ x ∧ x < TT f) : wf f (sgn f n + x) := by
  have := sgn_bd f n
  have := TT_cs f
  exact ⟨by omega, by omega⟩
theorem over_wf (f mode : Int) (n : Bool) : wf f (overS f mode n) := by
  have ib := IN_bd f
  have fb := fmt_bd f
  unfold overS
  split
  · exact sgn_wf f n (by omega)
  · exact sgn_wf f n (by omega)
theorem fin2_wf (f mode : Int) (n : Bool) (u q : Int) (h r s : Bool) (hq : 0 ≤ q) (hq2 : q ≤ 2 * BB f) (hu : le f - MM f ≤ u) : wf f (fin2 f mode n u q h r s).1 := by
  have fb := fmt_bd f
  have ib := IN_bd f
  unfold fin2
  have hq3 : 0 ≤ (if q / (2 * BB f) = 0 then q else q / 2) := by split <;> omega
  generalize (if q / (2 * BB f) = 0 then q else q / 2) = q2 at *
  have hu2 : le f - MM f ≤ (if q / (2 * BB f) = 0 then u else u + 1) := by split <;> omega
  generalize (if q / (2 * BB f) = 0 then u else u + 1) = u2 at *
  have ha : 0 ≤ (if q2 / BB f = 0 then 0 else u2 + MM f - le f + 1) := by split <;> omega
  generalize (if q2 / BB f = 0 then 0 else u2 + MM f - le f + 1) = a at *
  have hm : 0 ≤ q2 % BB f ∧ q2 % BB f < BB f := by rcases fb.2.1 with h | h | h <;> rw [h] <;> omega
  by_cases o : a ≥ RR f - 1
  · rw [if_pos o]; exact over_wf f mode n
  · rw [if_neg o]
    show wf f (sgn f n + a * BB f + q2 % BB f)
    rw [Int.add_assoc]
    apply sgn_wf
    have h1 : (a + 1) * BB f ≤ RR f * BB f := Int.mul_le_mul_of_nonneg_right (by omega) (by omega)
    rw [Int.add_mul, ← TT_RB] at h1
    have h2 : 0 ≤ a * BB f := Int.mul_nonneg ha (by omega)
    omega
theorem pk_wf (f mode : Int) (n : Bool) (e N : Int) (m : Bool) (hN : 0 ≤ N) : wf f (pk f mode n e N m).1 := by
  have fb := fmt_bd f
  have hq := q_bd f e N hN
  unfold pk
  split
  · have := sgn_wf f n (x := 0) (by omega); simpa using this
  · refine fin2_wf f mode n _ _ _ _ _ ?_ ?_ ?_
    · unfold fin1; split <;> omega
    · unfold fin1; split <;> omega
    · unfold unitS; split <;> omega
theorem tot_wf (f mode T : Int) : wf f (totS f mode T).1 := by
  have fb := fmt_bd f
  unfold totS
  split
  · have := sgn_wf f (decide (mode = 3)) (x := 0) (by omega); simpa using this
  · exact pk_wf _ _ _ _ _ _ (by split <;> omega)
theorem NN_wf (f : Int) : wf f (NN f) := by
  have ib := IN_bd f
  have fb := fmt_bd f
  unfold NN; exact ⟨by omega, by omega⟩
theorem infs_wf (f : Int) (n : Bool) : wf f (sgn f n + IN f) := by
  have ib := IN_bd f
  have fb := fmt_bd f
  exact sgn_wf f n (by omega)
theorem sum_wf (f mode : Int) (n : Bool) (e N : Int) (m : Bool) (d M : Int) : wf f (sumS f mode n e N m d M).1 := by
  have fb := fmt_bd f
  unfold sumS
  split
  · have := sgn_wf f n (x := 0) (by omega); simpa using this
  · exact tot_wf _ _ _
theorem fma_wf (f mode a b c : Int) : wf f (fmaS f mode a b c).1 := by
  unfold fmaS
  split
  · exact NN_wf f
  · split
    · split
      · exact NN_wf f
      · exact infs_wf f _
    · split
      · exact infs_wf f _
      · exact sum_wf _ _ _ _ _ _ _ _
theorem mul_wf (f mode a b : Int) : wf f (mulS f mode a b).1 := by
  unfold mulS
  split
  · exact NN_wf f
  · split
    · exact NN_wf f
    · split
      · exact infs_wf f _
      · exact pk_wf _ _ _ _ _ _ (sig_mul f a b).1.1
def fma (a b c : Int) : Int := (fmaS 2 0 a b c).1
theorem fma_w (a b c : Int) : w32 (fma a b c) := wf_w (fma_wf 2 0 a b c)
theorem ffma_eq {a b c : Int} (ha : w32 a) (hb : w32 b) (hc : w32 c) : F_94c a b c = some (fma a b c) := by
  unfold F_94c; rw [fma_eq 2 0 ha hb hc]; rfl
def toS (f g mode a : Int) : Int × ExcT × Unit :=
  if nan f a then (NN g, (loud f a, false, false, false, false, ()), ())
  else if inff f a then (sgn g (sg f a) + IN g, EXC0, ())
  else pk g mode (sg f a) (xp f a) (sig f a) false
theorem sig_w64 (f a : Int) : w64 (sig f a) := by
  have A := sig_bd f a
  have fb := fmt_bd f
  exact ⟨A.1, by omega⟩
theorem to_eq (f g mode : Int) {a : Int} (ha : w32 a) : F_95e f g mode a = some (toS f g mode a) := by
  have xa := xp_bd f a
  have k1 := kl_nan f a
  have k3 := kl_inf f a
  have kb := kl_le f a
  unfold F_95e F_98b toS
  rw [class_eq f ha.1 ha.2, nan_w, neg_eq f ha, of_eq f ha]
  simp only [Option.bind_some, bif_eq, inf_eq]
  rw [pack_eq g mode _ _ (sig_w64 f a), show min (max (xp f a) (-10000)) 10000 = xp f a by omega]
  simp only [Option.bind_some]
  by_cases h4 : kl f a = 4
  · have hn : nan f a = true := by unfold nan; simp; exact k1.1 (by omega)
    have hl : loud f a = false := by unfold loud; simp; omega
    rw [if_pos h4, hn, hl]; rfl
  rw [if_neg h4]
  by_cases h5 : kl f a = 5
  · have hn : nan f a = true := by unfold nan; simp; exact k1.1 (by omega)
    have hl : loud f a = true := by unfold loud; simp; omega
    rw [if_pos h5, hn, hl]; rfl
  rw [if_neg h5]
  have hn : nan f a = false := by
    unfold nan; apply decide_eq_false; intro k; have := k1.2 k; omega
  rw [hn]
  by_cases h3 : kl f a = 3
  · have hi : inff f a = true := by unfold inff; simp; exact k3.1 h3
    rw [if_pos h3, hi]; rfl
  · have hi : inff f a = false := by unfold inff; apply decide_eq_false; intro k; exact h3 (k3.2 k)
    rw [if_neg h3, hi]; rfl
def widen (f a : Int) : Int := (toS f 2 0 a).1
theorem to_wf (f g mode a : Int) : wf g (toS f g mode a).1 := by
  unfold toS
  split
  · exact NN_wf g
  · split
    · exact infs_wf g _
    · exact pk_wf _ _ _ _ _ _ (sig_bd f a).1
theorem widen_w (f a : Int) : w32 (widen f a) := wf_w (to_wf f 2 0 a)
theorem widen_eq (f : Int) {a : Int} (ha : w32 a) : F_92c f a = some (widen f a) := by
  unfold F_92c; rw [to_eq f 2 0 ha]; rfl
def addS (f mode a b : Int) : Int × ExcT × Unit :=
  if nan f a || nan f b then (NN f, (loud f a || loud f b, false, false, false, false, ()), ())
  else if inff f a && (inff f b && !(sg f a == sg f b)) then (NN f, (true, false, false, false, false, ()), ())
  else if inff f a then (sgn f (sg f a) + IN f, EXC0, ())
  else if inff f b then (sgn f (sg f b) + IN f, EXC0, ())
  else sumS f mode (sg f a) (xp f a) (sig f a) (sg f b) (xp f b) (sig f b)
theorem add_eq (f mode : Int) {a b : Int} (ha : w32 a) (hb : w32 b) : F_972 f mode a b = some (addS f mode a b) := by
  have xa := xp_bd f a
  have xb := xp_bd f b
  have hs := psum_eq f mode (sg f a) (sg f b) (N := sig f a) (M := sig f b) (sig_48 f a) (sig_48 f b) (show -298 ≤ xp f a ∧ xp f a ≤ 300 by omega) (show -298 ≤ xp f b ∧ xp f b ≤ 300 by omega)
  unfold F_972 F_99b F_98b addS
  rw [snans_eq f [a, b] (by simp) (by simpa using ⟨ha, hb⟩), neg_eq f ha, neg_eq f hb, isinf_eq f ha, isinf_eq f hb, of_eq f ha, of_eq f hb, nan_w]
  simp only [Option.bind_some, List.any_cons, List.any_nil, Bool.or_false, inf_eq]
  rw [hs]
  generalize sumS f mode (sg f a) (xp f a) (sig f a) (sg f b) (xp f b) (sig f b) = W
  rcases cls f a with ⟨a1, a3, a4⟩ | ⟨a1, a2, a3, a4⟩ | ⟨a1, a2, a3, a4⟩ | ⟨a1, a2, a3, a4⟩ <;> rcases cls f b with ⟨b1, b3, b4⟩ | ⟨b1, b2, b3, b4⟩ | ⟨b1, b2, b3, b4⟩ | ⟨b1, b2, b3, b4⟩ <;> simp only [a1, a3, a4, b1, b3, b4] <;> first | rfl | (cases sg f a <;> cases sg f b <;> rfl)
theorem add_wf (f mode a b : Int) : wf f (addS f mode a b).1 := by
  unfold addS
  split
  · exact NN_wf f
  · split
    · exact NN_wf f
    · split
      · exact infs_wf f _
      · split
        · exact infs_wf f _
        · exact sum_wf _ _ _ _ _ _ _ _
def addf (a b : Int) : Int := (addS 2 0 a b).1
theorem addf_w (a b : Int) : w32 (addf a b) := wf_w (add_wf 2 0 a b)
theorem fadd_eq {a b : Int} (ha : w32 a) (hb : w32 b) : F_949 a b = some (addf a b) := by
  unfold F_949; rw [add_eq 2 0 ha hb]; rfl
def lay1 (h : Nat → Int) (n i : Nat) : List Int := (List.range i).map h ++ List.replicate (n - i) 0
theorem lay1_len (h : Nat → Int) {n i : Nat} (hi : i ≤ n) : (lay1 h n i).length = n := by unfold lay1; simp; omega
theorem lay1_set (h : Nat → Int) {n i : Nat} (hi : i < n) : (lay1 h n i).set i (h i) = lay1 h n (i + 1) := by
  unfold lay1
  rw [List.set_append, if_neg (by simp), List.range_succ, List.map_append, List.append_assoc]
  congr 1
  rw [List.length_map, List.length_range, Nat.sub_self, show n - i = (n - (i + 1)) + 1 by omega, List.replicate_succ]
  rfl
theorem lay1_zero (h : Nat → Int) (n : Nat) : lay1 h n 0 = List.replicate n 0 := by unfold lay1; simp
theorem lay1_all (h : Nat → Int) (n : Nat) : lay1 h n n = (List.range n).map h := by unfold lay1; simp
def wideL (t : TsT) : List Int := (List.range t.2.2.2.1.length).map (fun i => widen t.2.2.1 (t.2.2.2.1.getD i 0))
abbrev noT : TsT := (0, 0, 0, [], ())
noncomputable def O_978 : Orc := c_94c
theorem okO_978 : OrcOk PR O_978 := ok_94c
abbrev fa_978 : Fm := (.pair (.i .u32) (.pair (.i .u32) (.pair (.si .u32) .unit)))
abbrev ha_978 : List BF := []
abbrev fr_978 : Fm := (.i .u32)
abbrev hr_978 : List BF := []
abbrev ff_978_0 : Fm := (.pair (.i .u32) (.pair (.i .u32) (.us 7 (.pair (.si .u32) (.pair (.i .i64) (.pair (.i .i64) (.us 9 .unit)))))))
abbrev hf_978_0 : List BF := []
abbrev X_978_0 : Xs := (.one (.exit 0) [1] (.us 1 (.pair (.i .u32) (.us 19 .unit))) [])
abbrev S_978_0 : Type := T ff_978_0 × TH hf_978_0
abbrev E_978_0 : Type := TX X_978_0
noncomputable def LB_978_0 : Lps := L0
noncomputable def st_978_0 : StepT S_978_0 E_978_0 := fun R v kn ko =>
 let x0 : Int := v.1.2.1
 let x1 : Int := v.1.1
 let x2 : List Int := v.1.2.2.1
 let x3 : Int := v.1.2.2.2.2.1
 bif (decide (x3 < v.1.2.2.2.1)) then
 bif (decide (((0:Int) ≤ x3) ∧ (x3 < (((List.length x2) : Nat) : Int)))) then
 ((F_94c x0 x1 (List.getD x2 (Int.toNat x3) (0:Int)))).bind fun r4 =>
 (kn ((x1, (r4, ((List.take (List.length x2) x2), (v.1.2.2.2.1, ((IntKind.wrap .i64 (x3 + (1:Int))), ()))))), ()))
 else
 none
 else
 (ko ((x0, ()), ()))
noncomputable def ls_978_0 : St → LTr := (lsum ff_978_0 hf_978_0 X_978_0 Prod.mk id st_978_0 (hd [] [] [0, 1, 9, 10, 11] 0))
theorem lp_978_0 : LoopOk PR 0 (lpN f_978 0) ls_978_0 := loopT okO_978 mixed (L := LB_978_0) (d := 1) (bs := []) (ks := [0, 1, 9, 10, 11]) (loopsL (l := []) (by kernel_rfl) trivial) (by kernel_rfl) (inS := Prod.mk) (outS := id) (fun _ _ => rfl) (inX := id) (outX := id) (fun _ => rfl) (fun v R kn ko => by kernel_rfl) (hd_wk [] [] [0, 1, 9, 10, 11] 0)
noncomputable def L_978 : Lps := (lpB 3 (.by_ ls_978_0) L0)
def inn_978 : T fr_978 → TH hr_978 → Int := (fun z w => z)
def out_978 : Int → T fr_978 × TH hr_978 := fun r => (r, ())
noncomputable def F_978 (a0 : Int) (a1 : Int) (a2 : List Int) : Option (Int) :=
 ((lim st_978_0 ((a0, (a1, ((List.take (List.length a2) a2), ((((List.length a2) : Nat) : Int), ((0:Int), ()))))), ()))).bind fun r0 =>
 (some r0.1.1)
noncomputable def G_978 : T fa_978 → TH ha_978 → Option (Int) := fun x y => F_978 x.1 x.2.1 x.2.2.1
noncomputable def c_978 : Orc := ent i_978 [] 0 (sp fa_978 ha_978 fr_978 hr_978 G_978 out_978)
theorem ok_978 : OrcOk PR c_978 := fnT okO_978 mixed p_978 (by kernel_rfl) (by kernel_rfl) (L := L_978) (kp := false) (by kernel_rfl) (inn := inn_978) (out := out_978) (fun _ _ => rfl) (loopsL (l := [((lpN f_978 0), ls_978_0)]) (by kernel_rfl) ⟨lp_978_0, trivial⟩) (fun x y => by kernel_rfl)
noncomputable def O_966 : Orc := (orm c_92d (orm c_962 (orm c_92f (orm c_973 (orm c_93a (orm c_992 (orm c_942 (orm c_965 (orm c_94c (orm c_978 c_977))))))))))
theorem okO_966 : OrcOk PR O_966 := (orm_ok ok_92d (orm_ok ok_962 (orm_ok ok_92f (orm_ok ok_973 (orm_ok ok_93a (orm_ok ok_992 (orm_ok ok_942 (orm_ok ok_965 (orm_ok ok_94c (orm_ok ok_978 ok_977))))))))))
abbrev fa_966 : Fm := (.pair (.i .u32) .unit)
abbrev ha_966 : List BF := []
abbrev fr_966 : Fm := (.i .u32)
abbrev hr_966 : List BF := []
noncomputable def L_966 : Lps := L0
def inn_966 : T fr_966 → TH hr_966 → Int := (fun z w => z)
def out_966 : Int → T fr_966 × TH hr_966 := fun r => (r, ())
noncomputable def F_966 (a0 : Int) : Option (Int) :=
 ((F_92d a0)).bind fun r0 =>
 bif r0 then
 (some (2143289344:Int))
 else
 ((F_92f a0 (1118925336:Int))).bind fun r1 =>
 bif r1 then
 (some (2139095040:Int))
 else
 ((F_92f (3268407733:Int) a0)).bind fun r2 =>
 bif r2 then
 (some (0:Int))
 else
 ((F_93a a0 (1069066811:Int))).bind fun r3 =>
 ((F_992 (2:Int) (0:Int) r3)).bind fun r4 =>
 let x5 : Int := (IntKind.wrap .i64 r4.1)
 ((F_942 x5)).bind fun r6 =>
 let x7 : Int := (bits .xor .u32 (bits .and .u32 r6 (4294967295:Int)) (2147483648:Int))
 ((F_94c x7 (1060205056:Int) a0)).bind fun r8 =>
 ((F_94c x7 (901758606:Int) r8)).bind fun r9 =>
 ((F_978 r9 (985008993:Int) [(1007192201:Int), (1026206379:Int), (1042983595:Int), (1056964608:Int), (1065353216:Int), (1065353216:Int)])).bind fun r10 =>
 ((F_977 r10 x5)).bind fun r11 =>
 (some r11)
noncomputable def G_966 : T fa_966 → TH ha_966 → Option (Int) := fun x y => F_966 x.1
noncomputable def c_966 : Orc := ent i_966 [] 0 (sp fa_966 ha_966 fr_966 hr_966 G_966 out_966)
theorem ok_966 : OrcOk PR c_966 := fnT okO_966 mixed p_966 (by kernel_rfl) (by kernel_rfl) (L := L_966) (kp := false) (by kernel_rfl) (inn := inn_966) (out := out_966) (fun _ _ => rfl) (loopsL (l := []) (by kernel_rfl) trivial) (fun x y => by kernel_rfl)
noncomputable def O_930 : Orc := (orm c_92d (orm c_962 (orm c_963 (orm c_964 (orm c_965 (orm c_92f (orm c_949 (orm c_966 (orm c_941 c_939)))))))))
theorem okO_930 : OrcOk PR O_930 := (orm_ok ok_92d (orm_ok ok_962 (orm_ok ok_963 (orm_ok ok_964 (orm_ok ok_965 (orm_ok ok_92f (orm_ok ok_949 (orm_ok ok_966 (orm_ok ok_941 ok_939)))))))))
abbrev fa_930 : Fm := (.pair (.i .u32) .unit)
abbrev ha_930 : List BF := []
abbrev fr_930 : Fm := (.i .u32)
abbrev hr_930 : List BF := []
noncomputable def L_930 : Lps := L0
def inn_930 : T fr_930 → TH hr_930 → Int := (fun z w => z)
def out_930 : Int → T fr_930 × TH hr_930 := fun r => (r, ())
noncomputable def F_930 (a0 : Int) : Option (Int) :=
 let x0 : Bool := ((bits .and .u32 (a0 / (2147483648:Int)) (1:Int)) == (1:Int))
 let x1 : Int := (bits .xor .u32 (bits .and .u32 a0 (4294967295:Int)) (2147483648:Int))
 ((F_92d a0)).bind fun r2 =>
 bif r2 then
 (some (2143289344:Int))
 else
 ((F_963 (2:Int) a0)).bind fun r3 =>
 bif r3 then
 (some a0)
 else
 bif x0 then
 ((F_92f x1 (1091579060:Int))).bind fun r4 =>
 bif (!r4) then
 ((F_949 x1 x1)).bind fun r5 =>
 ((F_966 r5)).bind fun r6 =>
 ((F_949 r6 (1065353216:Int))).bind fun r7 =>
 ((F_941 (1073741824:Int) r7)).bind fun r8 =>
 ((F_939 (1065353216:Int) r8)).bind fun r9 =>
 bif x0 then
 (some (bits .xor .u32 (bits .and .u32 r9 (4294967295:Int)) (2147483648:Int)))
 else
 (some r9)
 else
 bif x0 then
 (some (3212836864:Int))
 else
 (some (1065353216:Int))
 else
 ((F_92f a0 (1091579060:Int))).bind fun r10 =>
 bif (!r10) then
 ((F_949 a0 a0)).bind fun r11 =>
 ((F_966 r11)).bind fun r12 =>
 ((F_949 r12 (1065353216:Int))).bind fun r13 =>
 ((F_941 (1073741824:Int) r13)).bind fun r14 =>
 ((F_939 (1065353216:Int) r14)).bind fun r15 =>
 bif x0 then
 (some (bits .xor .u32 (bits .and .u32 r15 (4294967295:Int)) (2147483648:Int)))
 else
 (some r15)
 else
 bif x0 then
 (some (3212836864:Int))
 else
 (some (1065353216:Int))
noncomputable def G_930 : T fa_930 → TH ha_930 → Option (Int) := fun x y => F_930 x.1
noncomputable def c_930 : Orc := ent i_930 [] 0 (sp fa_930 ha_930 fr_930 hr_930 G_930 out_930)
theorem ok_930 : OrcOk PR c_930 := fnT okO_930 mixed p_930 (by kernel_rfl) (by kernel_rfl) (L := L_930) (kp := false) (by kernel_rfl) (inn := inn_930) (out := out_930) (fun _ _ => rfl) (loopsL (l := []) (by kernel_rfl) trivial) (fun x y => by kernel_rfl)
noncomputable def O_967 : Orc := (orm c_93a c_94c)
theorem okO_967 : OrcOk PR O_967 := (orm_ok ok_93a ok_94c)
abbrev fa_967 : Fm := (.pair (.i .u32) .unit)
abbrev ha_967 : List BF := []
abbrev fr_967 : Fm := (.i .u32)
abbrev hr_967 : List BF := []
noncomputable def L_967 : Lps := L0
def inn_967 : T fr_967 → TH hr_967 → Int := (fun z w => z)
def out_967 : Int → T fr_967 × TH hr_967 := fun r => (r, ())
noncomputable def F_967 (a0 : Int) : Option (Int) :=
 ((F_93a a0 a0)).bind fun r0 =>
 ((F_93a r0 a0)).bind fun r1 =>
 ((F_94c (1027024659:Int) r1 a0)).bind fun r2 =>
 ((F_93a (1061962282:Int) r2)).bind fun r3 =>
 (some r3)
noncomputable def G_967 : T fa_967 → TH ha_967 → Option (Int) := fun x y => F_967 x.1
noncomputable def c_967 : Orc := ent i_967 [] 0 (sp fa_967 ha_967 fr_967 hr_967 G_967 out_967)
theorem ok_967 : OrcOk PR c_967 := fnT okO_967 mixed p_967 (by kernel_rfl) (by kernel_rfl) (L := L_967) (kp := false) (by kernel_rfl) (inn := inn_967) (out := out_967) (fun _ _ => rfl) (loopsL (l := []) (by kernel_rfl) trivial) (fun x y => by kernel_rfl)
noncomputable def O_931 : Orc := (orm c_93a (orm c_967 (orm c_930 c_949)))
theorem okO_931 : OrcOk PR O_931 := (orm_ok ok_93a (orm_ok ok_967 (orm_ok ok_930 ok_949)))
abbrev fa_931 : Fm := (.pair (.i .u32) .unit)
abbrev ha_931 : List BF := []
abbrev fr_931 : Fm := (.i .u32)
abbrev hr_931 : List BF := []
noncomputable def L_931 : Lps := L0
def inn_931 : T fr_931 → TH hr_931 → Int := (fun z w => z)
def out_931 : Int → T fr_931 × TH hr_931 := fun r => (r, ())
noncomputable def F_931 (a0 : Int) : Option (Int) :=
 ((F_93a (1056964608:Int) a0)).bind fun r0 =>
 ((F_967 a0)).bind fun r1 =>
 ((F_930 r1)).bind fun r2 =>
 ((F_949 (1065353216:Int) r2)).bind fun r3 =>
 ((F_93a r0 r3)).bind fun r4 =>
 (some r4)
noncomputable def G_931 : T fa_931 → TH ha_931 → Option (Int) := fun x y => F_931 x.1
noncomputable def c_931 : Orc := ent i_931 [] 0 (sp fa_931 ha_931 fr_931 hr_931 G_931 out_931)
theorem ok_931 : OrcOk PR c_931 := fnT okO_931 mixed p_931 (by kernel_rfl) (by kernel_rfl) (L := L_931) (kp := false) (by kernel_rfl) (inn := inn_931) (out := out_931) (fun _ _ => rfl) (loopsL (l := []) (by kernel_rfl) trivial) (fun x y => by kernel_rfl)
noncomputable def O_93b : Orc := (orm c_967 (orm c_930 (orm c_93a (orm c_94c (orm c_939 c_949)))))
theorem okO_93b : OrcOk PR O_93b := (orm_ok ok_967 (orm_ok ok_930 (orm_ok ok_93a (orm_ok ok_94c (orm_ok ok_939 ok_949)))))
abbrev fa_93b : Fm := (.pair (.i .u32) .unit)
abbrev ha_93b : List BF := []
abbrev fr_93b : Fm := (.i .u32)
abbrev hr_93b : List BF := []
noncomputable def L_93b : Lps := L0
def inn_93b : T fr_93b → TH hr_93b → Int := (fun z w => z)
def out_93b : Int → T fr_93b × TH hr_93b := fun r => (r, ())
noncomputable def F_93b (a0 : Int) : Option (Int) :=
 ((F_967 a0)).bind fun r0 =>
 ((F_930 r0)).bind fun r1 =>
 ((F_93a a0 a0)).bind fun r2 =>
 ((F_94c (1040801103:Int) r2 (1065353216:Int))).bind fun r3 =>
 ((F_93a (1061962282:Int) r3)).bind fun r4 =>
 ((F_93a (1056964608:Int) a0)).bind fun r5 =>
 ((F_93a r1 r1)).bind fun r6 =>
 ((F_939 (1065353216:Int) r6)).bind fun r7 =>
 ((F_93a r5 r7)).bind fun r8 =>
 ((F_949 (1065353216:Int) r1)).bind fun r9 =>
 ((F_93a (1056964608:Int) r9)).bind fun r10 =>
 ((F_94c r8 r4 r10)).bind fun r11 =>
 (some r11)
noncomputable def G_93b : T fa_93b → TH ha_93b → Option (Int) := fun x y => F_93b x.1
noncomputable def c_93b : Orc := ent i_93b [] 0 (sp fa_93b ha_93b fr_93b hr_93b G_93b out_93b)
theorem ok_93b : OrcOk PR c_93b := fnT okO_93b mixed p_93b (by kernel_rfl) (by kernel_rfl) (L := L_93b) (kp := false) (by kernel_rfl) (inn := inn_93b) (out := out_93b) (fun _ _ => rfl) (loopsL (l := []) (by kernel_rfl) trivial) (fun x y => by kernel_rfl)
noncomputable def O_92e : Orc := c_960
theorem okO_92e : OrcOk PR O_92e := ok_960
abbrev fa_92e : Fm := .unit
abbrev ha_92e : List BF := []
abbrev fr_92e : Fm := (.i .u32)
abbrev hr_92e : List BF := []
noncomputable def L_92e : Lps := L0
def inn_92e : T fr_92e → TH hr_92e → Int := (fun z w => z)
def out_92e : Int → T fr_92e × TH hr_92e := fun r => (r, ())
noncomputable def F_92e  : Option (Int) :=
 (some (2143289344:Int))
noncomputable def G_92e : T fa_92e → TH ha_92e → Option (Int) := fun x y => F_92e
noncomputable def c_92e : Orc := ent i_92e [] 0 (sp fa_92e ha_92e fr_92e hr_92e G_92e out_92e)
theorem ok_92e : OrcOk PR c_92e := fnT okO_92e mixed p_92e (by kernel_rfl) (by kernel_rfl) (L := L_92e) (kp := false) (by kernel_rfl) (inn := inn_92e) (out := out_92e) (fun _ _ => rfl) (loopsL (l := []) (by kernel_rfl) trivial) (fun x y => by kernel_rfl)
noncomputable def O_928 : Orc := orn
theorem okO_928 : OrcOk PR O_928 := (orn_ok _)
abbrev fa_928 : Fm := (.pair (.i .i64) .unit)
abbrev ha_928 : List BF := []
abbrev fr_928 : Fm := .b
abbrev hr_928 : List BF := []
noncomputable def L_928 : Lps := L0
def inn_928 : T fr_928 → TH hr_928 → Bool := (fun z w => z)
def out_928 : Bool → T fr_928 × TH hr_928 := fun r => (r, ())
noncomputable def F_928 (a0 : Int) : Option (Bool) :=
 bif (decide (a0 ≥ (0:Int))) then
 (some (decide (a0 ≤ (3:Int))))
 else
 (some false)
noncomputable def G_928 : T fa_928 → TH ha_928 → Option (Bool) := fun x y => F_928 x.1
noncomputable def c_928 : Orc := ent i_928 [] 0 (sp fa_928 ha_928 fr_928 hr_928 G_928 out_928)
theorem ok_928 : OrcOk PR c_928 := fnT okO_928 mixed p_928 (by kernel_rfl) (by kernel_rfl) (L := L_928) (kp := false) (by kernel_rfl) (inn := inn_928) (out := out_928) (fun _ _ => rfl) (loopsL (l := []) (by kernel_rfl) trivial) (fun x y => by kernel_rfl)
noncomputable def O_910 : Orc := (orm c_92d (orm c_92e (orm c_92f (orm c_930 c_931))))
theorem okO_910 : OrcOk PR O_910 := (orm_ok ok_92d (orm_ok ok_92e (orm_ok ok_92f (orm_ok ok_930 ok_931))))
abbrev fa_910 : Fm := (.pair (.i .i64) (.pair (.i .u32) .unit))
abbrev ha_910 : List BF := []
abbrev fr_910 : Fm := (.i .u32)
abbrev hr_910 : List BF := []
noncomputable def L_910 : Lps := L0
def inn_910 : T fr_910 → TH hr_910 → Int := (fun z w => z)
def out_910 : Int → T fr_910 × TH hr_910 := fun r => (r, ())
noncomputable def F_910 (a0 : Int) (a1 : Int) : Option (Int) :=
 bif (a0 == (0:Int)) then
 (some a1)
 else
 bif (a0 == (1:Int)) then
 ((F_92d a1)).bind fun r0 =>
 bif r0 then
 (some (2143289344:Int))
 else
 ((F_92f a1 (0:Int))).bind fun r1 =>
 bif r1 then
 (some a1)
 else
 (some (0:Int))
 else
 bif (a0 == (2:Int)) then
 ((F_930 a1)).bind fun r2 =>
 (some r2)
 else
 bif (a0 == (3:Int)) then
 ((F_931 a1)).bind fun r3 =>
 (some r3)
 else
 (some (2143289344:Int))
noncomputable def G_910 : T fa_910 → TH ha_910 → Option (Int) := fun x y => F_910 x.1 x.2.1
noncomputable def c_910 : Orc := ent i_910 [] 0 (sp fa_910 ha_910 fr_910 hr_910 G_910 out_910)
theorem ok_910 : OrcOk PR c_910 := fnT okO_910 mixed p_910 (by kernel_rfl) (by kernel_rfl) (L := L_910) (kp := false) (by kernel_rfl) (inn := inn_910) (out := out_910) (fun _ _ => rfl) (loopsL (l := []) (by kernel_rfl) trivial) (fun x y => by kernel_rfl)
noncomputable def O_916 : Orc := (orm c_92f (orm c_930 (orm c_93a (orm c_939 (orm c_93b c_92e)))))
theorem okO_916 : OrcOk PR O_916 := (orm_ok ok_92f (orm_ok ok_930 (orm_ok ok_93a (orm_ok ok_939 (orm_ok ok_93b ok_92e)))))
abbrev fa_916 : Fm := (.pair (.i .i64) (.pair (.i .u32) .unit))
abbrev ha_916 : List BF := []
abbrev fr_916 : Fm := (.i .u32)
abbrev hr_916 : List BF := []
noncomputable def L_916 : Lps := L0
def inn_916 : T fr_916 → TH hr_916 → Int := (fun z w => z)
def out_916 : Int → T fr_916 × TH hr_916 := fun r => (r, ())
noncomputable def F_916 (a0 : Int) (a1 : Int) : Option (Int) :=
 bif (a0 == (0:Int)) then
 (some (1065353216:Int))
 else
 bif (a0 == (1:Int)) then
 ((F_92f a1 (0:Int))).bind fun r0 =>
 bif r0 then
 (some (1065353216:Int))
 else
 (some (0:Int))
 else
 bif (a0 == (2:Int)) then
 ((F_930 a1)).bind fun r1 =>
 ((F_93a r1 r1)).bind fun r2 =>
 ((F_939 (1065353216:Int) r2)).bind fun r3 =>
 (some r3)
 else
 bif (a0 == (3:Int)) then
 ((F_93b a1)).bind fun r4 =>
 (some r4)
 else
 (some (2143289344:Int))
noncomputable def G_916 : T fa_916 → TH ha_916 → Option (Int) := fun x y => F_916 x.1 x.2.1
noncomputable def c_916 : Orc := ent i_916 [] 0 (sp fa_916 ha_916 fr_916 hr_916 G_916 out_916)
theorem ok_916 : OrcOk PR c_916 := fnT okO_916 mixed p_916 (by kernel_rfl) (by kernel_rfl) (L := L_916) (kp := false) (by kernel_rfl) (inn := inn_916) (out := out_916) (fun _ _ => rfl) (loopsL (l := []) (by kernel_rfl) trivial) (fun x y => by kernel_rfl)
end Go.Proofs.YtfpjkmgfkaoapaaGreat.VI
