import Derived.Test.YtkmkhcmfpbffjaaGreatTcff6f17a
namespace Go.Proofs.YtkmkhcmfpbffjaaGreat.VI
set_option linter.unusedVariables false
set_option linter.unusedSimpArgs false
set_option maxRecDepth 100000
set_option maxHeartbeats 4000000
abbrev TsT : Type := Int × Int × Int × List Int × Unit
abbrev wl (l : List Int) : Prop := ∀ a ∈ l, w32 a
theorem wl_get {l : List Int} (h : wl l) (i : Nat) : w32 (l.getD i 0) := by
  rw [List.getD_eq_getElem?_getD]
  cases e : l[i]? with
  | none => exact ⟨by decide, by decide⟩
  | some a => exact h a (List.mem_of_getElem? e)
def knownS (f : Int) : Bool := decide (f = 0 ∨ f = 1 ∨ f = 2)
def fits (f v : Int) : Bool := decide (v < 2 * TT f)
def rightS (t : TsT) : Bool := decide (0 ≤ t.1 ∧ t.1 ≤ 4096 ∧ 0 ≤ t.2.1 ∧ t.2.1 ≤ 4096) && (knownS t.2.2.1 && (decide ((t.2.2.2.1.length : Int) = t.1 * t.2.1) && t.2.2.2.1.all (fits t.2.2.1)))
theorem known_t (f : Int) : F_97c f = some (knownS f) := by
  unfold F_97c knownS
  rw [bif_eq, bif_eq]
  by_cases h0 : f = 0
  · simp [h0]
  · by_cases h1 : f = 1
    · simp [h1]
    · simp only [if_neg h0, if_neg h1]
      congr 1; rw [Bool.eq_iff_iff]; simp [h0, h1]
theorem known_r (f : Int) : F_934 f = some (knownS f) := known_t f
theorem nat_hi (y : Nat) (h : y < 2 ^ 32) : y &&& (4294967295 - 65535) = 0 ↔ y < 65536 := by
  constructor
  · intro k
    have e : (y &&& (4294967295 - 65535)) >>> 16 = (y >>> 16) &&& 65535 := by rw [Nat.shiftRight_and_distrib]; rfl
    rw [k] at e
    have e2 : (y >>> 16) &&& 65535 = (y >>> 16) % 65536 := Nat.and_two_pow_sub_one_eq_mod _ 16
    rw [e2, Nat.shiftRight_eq_div_pow] at e
    simp at e
    omega
  · intro k
    apply Nat.eq_of_testBit_eq
    intro i
    rw [Nat.testBit_and, Nat.zero_testBit]
    by_cases hi : i < 16
    · have : Nat.testBit (4294967295 - 65535) i = false := by
        rw [show 4294967295 - 65535 = 2 ^ 16 * 65535 by rfl, Nat.testBit_two_pow_mul]; simp; omega
      rw [this, Bool.and_false]
    · have : y.testBit i = false := Nat.testBit_lt_two_pow (Nat.lt_of_lt_of_le (show y < 2 ^ 16 from k) (Nat.pow_le_pow_right (by omega) (by omega)))
      rw [this, Bool.false_and]
theorem andNot_fits (f : Int) {v : Int} (h : w32 v) : (bits .andNot .u32 v (2 * TT f - 1) != 0) = !(fits f v) := by
  unfold fits
  rcases TT_cs f with e | e <;> rw [e]
  · rw [show (2 * 32768 - 1 : Int) = 65535 from rfl, u32_andNot _ _ h.1 h.2 (by omega) (by omega)]
    have := nat_hi v.toNat (by omega)
    rw [show (65535 : Int).toNat = 65535 from rfl, Bool.eq_iff_iff]
    simp only [bne_iff_ne, Bool.not_eq_true', decide_eq_false_iff_not]
    have h2 : ((v.toNat &&& (4294967295 - 65535) : Nat) : Int) ≠ 0 ↔ ¬ (v.toNat &&& (4294967295 - 65535)) = 0 := by omega
    rw [h2, this]; omega
  · rw [show (2 * 2147483648 - 1 : Int) = 4294967295 from rfl, u32_andNot _ _ h.1 h.2 (by omega) (by omega)]
    rw [show (4294967295 : Int).toNat = 4294967295 from rfl, Nat.sub_self, Nat.and_zero]
    have : decide (v < 2 * 2147483648) = true := by simp; omega
    rw [this]; rfl
theorem first_or (p : Nat → Bool) (n : Nat) : (∀ i, i < n → p i = false) ∨ ∃ k, k < n ∧ (∀ i, i < k → p i = false) ∧ p k = true := by
  induction n with
  | zero => left; intro i h; omega
  | succ n ih =>
    rcases ih with h | ⟨k, h1, h2, h3⟩
    · cases hp : p n with
      | false => left; intro i hi; by_cases e : i = n
                 · rw [e]; exact hp
                 · exact h i (by omega)
      | true => right; exact ⟨n, by omega, h, hp⟩
    · right; exact ⟨k, by omega, h2, h3⟩
theorem all_get {l : List Int} {p : Int → Bool} : l.all p = true ↔ ∀ i, i < l.length → p (l.getD i 0) = true := by
  rw [List.all_eq_true]
  constructor
  · intro h i hi; rw [gtd hi]; exact h _ (List.getElem_mem hi)
  · intro h a ha
    obtain ⟨i, hi, rfl⟩ := List.getElem_of_mem ha
    have := h i hi; rwa [gtd hi] at this
theorem index_eq (l : List Int) (b : TsT) (hl : wl l) (hn : l.length < 4611686018427387904) :
    ∃ r, F_9a3 l b = some (r, (b, ())) ∧ (r ≥ 0 ↔ ¬ l.all (fits b.2.2.1) = true) := by
  obtain ⟨b1, b2, b3, b4, ⟨⟩⟩ := b
  unfold F_9a3
  dsimp only
  simp only [List.take_length]
  have step : ∀ i, i < l.length → fits b3 (l.getD i 0) = true → ∀ R kn ko, st_9a3_0 R ((l, ((l.length : Int), ((i : Int), ()))), ((b1, (b2, (b3, (b4, ())))), ())) kn ko = kn ((l, ((l.length : Int), (((i + 1 : Nat) : Int), ()))), ((b1, (b2, (b3, (b4, ())))), ())) := by
    intro i hi hf R kn ko
    unfold st_9a3_0 F_97e
    dsimp only
    simp only [List.take_length, bif_dec]
    rw [if_pos (by omega), if_pos (by omega), Int.toNat_natCast, mask_eq]
    simp only [Option.bind_some]
    rw [andNot_fits b3 (wl_get hl i), hf, wi64 (by omega), show ((i + 1 : Nat) : Int) = (i : Int) + 1 by omega]; rfl
  rcases first_or (fun i => !(fits b3 (l.getD i 0))) l.length with h | ⟨k, h1, h2, h3⟩
  · have := lim_seq (st := st_9a3_0) (fun i => ((l, ((l.length : Int), ((i : Int), ()))), ((b1, (b2, (b3, (b4, ())))), ()))) (b := Sum.inl ((), ((b1, (b2, (b3, (b4, ())))), ()))) l.length
      (fun i hi R kn ko => step i hi (by simpa using h i hi) R kn ko)
      (fun R kn ko => by
        unfold st_9a3_0
        dsimp only
        simp only [List.take_length, bif_dec]
        rw [if_neg (by omega)])
    have e : lim st_9a3_0 ((l, ((l.length : Int), ((0 : Int), ()))), ((b1, (b2, (b3, (b4, ())))), ())) = _ := this
    rw [e]
    refine ⟨-1, by simp only [Option.bind_some, els, List.take_length], ?_⟩
    have ha : l.all (fits b3) = true := all_get.2 fun i hi => by simpa using h i hi
    simp [ha]
  · have := lim_seq (st := st_9a3_0) (fun i => ((l, ((l.length : Int), ((i : Int), ()))), ((b1, (b2, (b3, (b4, ())))), ()))) (b := Sum.inr (((k : Int), ()), ((b1, (b2, (b3, (b4, ())))), ()))) k
      (fun i hi R kn ko => step i (by omega) (by simpa using h2 i hi) R kn ko)
      (fun R kn ko => by
        unfold st_9a3_0 F_97e
        dsimp only
        simp only [List.take_length, bif_dec]
        rw [if_pos (by omega), if_pos (by omega), Int.toNat_natCast, mask_eq]
        simp only [Option.bind_some]
        rw [andNot_fits b3 (wl_get hl k), h3]; rfl)
    have e : lim st_9a3_0 ((l, ((l.length : Int), ((0 : Int), ()))), ((b1, (b2, (b3, (b4, ())))), ())) = _ := this
    rw [e]
    refine ⟨(k : Int), by simp only [Option.bind_some, els, List.take_length], ?_⟩
    have ha : ¬ l.all (fits b3) = true := fun h => by
      have q := all_get.1 h k h1; rw [q] at h3; cases h3
    exact ⟨fun _ => ha, fun _ => by omega⟩
theorem right_eq (t : TsT) (hl : wl t.2.2.2.1) (hn : t.2.2.2.1.length < 4611686018427387904) : F_94d t = some (rightS t) := by
  obtain ⟨a, b, f, l, ⟨⟩⟩ := t
  simp only at hl hn
  obtain ⟨r, hr, hr2⟩ := index_eq l (a, b, f, l, ()) hl hn
  unfold F_94d rightS F_9a4
  dsimp only
  simp only [List.take_length, bif_dec, known_t, Option.bind_some, hr, bif_ne]
  by_cases h1 : 0 ≤ a ∧ a ≤ 4096 ∧ 0 ≤ b ∧ b ≤ 4096
  · rw [if_neg (by omega), if_neg (by omega), if_neg (by omega), if_neg (by omega), decide_eq_true h1]
    have hm : IntKind.i64.wrap (a * b) = a * b := by
      have : 0 ≤ a * b := Int.mul_nonneg h1.1 h1.2.2.1
      have : a * b ≤ 4096 * 4096 := Int.mul_le_mul h1.2.1 h1.2.2.2 h1.2.2.1 (by omega)
      exact wi64 (by omega)
    rw [hm]
    cases knownS f
    · rfl
    · by_cases h2 : (l.length : Int) = a * b
      · rw [if_pos h2, decide_eq_true h2]
        simp only [Bool.not_true, cond_false, Bool.true_and]
        congr 1
        have hb : decide (r ≥ 0) = !(l.all (fits f)) := by
          rw [Bool.eq_iff_iff, decide_eq_true_eq, hr2]; simp
        rw [hb]; simp
      · rw [if_neg h2, decide_eq_false h2]; rfl
  · rw [decide_eq_false h1]
    by_cases k1 : a < 0
    · rw [if_pos k1]; rfl
    rw [if_neg k1]
    by_cases k2 : a > 4096
    · rw [if_pos k2]; rfl
    rw [if_neg k2]
    by_cases k3 : b < 0
    · rw [if_pos k3]; rfl
    rw [if_neg k3, if_pos (by omega)]; rfl
theorem rightr_eq (t : TsT) (hl : wl t.2.2.2.1) (hn : t.2.2.2.1.length < 4611686018427387904) : F_918 t = some (rightS t) := by
  obtain ⟨a, b, f, l, ⟨⟩⟩ := t
  simp only at hl hn
  have step : ∀ i, i < l.length → fits f (l.getD i 0) = true → ∀ R kn ko, st_918_0 R (((i : Int), ()), ((a, (b, (f, (l, ())))), ())) kn ko = kn ((((i + 1 : Nat) : Int), ()), ((a, (b, (f, (l, ())))), ())) := by
    intro i hi hf R kn ko
    unfold st_918_0
    dsimp only
    simp only [List.take_length, bif_dec]
    rw [if_pos (by omega), if_pos (by omega), Int.toNat_natCast, maskr_eq]
    simp only [Option.bind_some]
    rw [andNot_fits f (wl_get hl i), hf, wi64 (by omega), show ((i + 1 : Nat) : Int) = (i : Int) + 1 by omega]; rfl
  have hlim : ((lim st_918_0 (((0:Int), ()), ((a, (b, (f, (l, ())))), ()))).bind fun r4 => els (fun l5 => (some true)) (fun r6 => (some r6.1.1)) r4) = some (l.all (fits f)) := by
    rcases first_or (fun i => !(fits f (l.getD i 0))) l.length with h | ⟨k, h1, h2, h3⟩
    · have := lim_seq (st := st_918_0) (fun i => (((i : Int), ()), ((a, (b, (f, (l, ())))), ()))) (b := Sum.inl ((), ())) l.length
        (fun i hi R kn ko => step i hi (by simpa using h i hi) R kn ko)
        (fun R kn ko => by
          unfold st_918_0
          dsimp only
          simp only [bif_dec]
          rw [if_neg (by omega)])
      have e : lim st_918_0 (((0:Int), ()), ((a, (b, (f, (l, ())))), ())) = _ := this
      rw [e]
      have ha : l.all (fits f) = true := all_get.2 fun i hi => by simpa using h i hi
      rw [ha]; rfl
    · have := lim_seq (st := st_918_0) (fun i => (((i : Int), ()), ((a, (b, (f, (l, ())))), ()))) (b := Sum.inr ((false, ()), ())) k
        (fun i hi R kn ko => step i (by omega) (by simpa using h2 i hi) R kn ko)
        (fun R kn ko => by
          unfold st_918_0
          dsimp only
          simp only [bif_dec]
          rw [if_pos (by omega), if_pos (by omega), Int.toNat_natCast, maskr_eq]
          simp only [Option.bind_some]
          rw [andNot_fits f (wl_get hl k), h3]; rfl)
      have e : lim st_918_0 (((0:Int), ()), ((a, (b, (f, (l, ())))), ())) = _ := this
      rw [e]
      have ha : l.all (fits f) = false := by
        apply Bool.eq_false_iff.2; intro h
        have q := all_get.1 h k h1; rw [q] at h3; cases h3
      rw [ha]; rfl
  unfold F_918 rightS
  dsimp only
  simp only [List.take_length, bif_dec, known_r, Option.bind_some, hlim, bif_ne]
  by_cases h1 : 0 ≤ a ∧ a ≤ 4096 ∧ 0 ≤ b ∧ b ≤ 4096
  · rw [if_neg (by omega), if_neg (by omega), if_neg (by omega), if_neg (by omega), decide_eq_true h1]
    have hm : IntKind.i64.wrap (a * b) = a * b := by
      have : 0 ≤ a * b := Int.mul_nonneg h1.1 h1.2.2.1
      have : a * b ≤ 4096 * 4096 := Int.mul_le_mul h1.2.1 h1.2.2.2 h1.2.2.1 (by omega)
      exact wi64 (by omega)
    rw [hm]
    cases knownS f
    · rfl
    · by_cases h2 : (l.length : Int) = a * b
      · rw [if_pos h2, decide_eq_true h2]; rfl
      · rw [if_neg h2, decide_eq_false h2]; rfl
  · rw [decide_eq_false h1]
    by_cases k1 : a < 0
    · rw [if_pos k1]; rfl
    rw [if_neg k1]
    by_cases k2 : a > 4096
    · rw [if_pos k2]; rfl
    rw [if_neg k2]
    by_cases k3 : b < 0
    · rw [if_pos k3]; rfl
    rw [if_neg k3, if_pos (by omega)]; rfl
abbrev wf (f a : Int) : Prop := 0 ≤ a ∧ a < 2 * TT f
theorem wf_w {f a : Int} (h : wf f a) : w32 a := ⟨h.1, by have := TT_cs f; omega⟩
theorem sgn_wf (f : Int) (n : Bool) {x : Int} (h : 0 ≤ x ∧ x < TT f) : wf f (sgn f n + x) := by
  have := sgn_bd f n
  have := TT_cs f
  exact ⟨by omega, by omega⟩
theorem over_wf (f mode : Int) (n : Bool) : wf f (overS f mode n) := by
  have ib := IN_bd f
  have fb := fmt_bd f
  unfold overS
  split
  · exact sgn_wf f n (by omega)
  · exact sgn_wf f n (by omega)
theorem fin2_wf (f mode : Int) (n : Bool) (u q : Int) (h r s : Bool) (hq : 0 ≤ q) (hq2 : q ≤ 2 * BB f) (hu : le f - MM f ≤ u) : wf f (fin2 f mode n u q h r s).1 := by
  have fb := fmt_bd f
  have ib := IN_bd f
  unfold fin2
  have hq3 : 0 ≤ (if q / (2 * BB f) = 0 then q else q / 2) := by split <;> omega
  generalize (if q / (2 * BB f) = 0 then q else q / 2) = q2 at *
  have hu2 : le f - MM f ≤ (if q / (2 * BB f) = 0 then u else u + 1) := by split <;> omega
  generalize (if q / (2 * BB f) = 0 then u else u + 1) = u2 at *
  have ha : 0 ≤ (if q2 / BB f = 0 then 0 else u2 + MM f - le f + 1) := by split <;> omega
  generalize (if q2 / BB f = 0 then 0 else u2 + MM f - le f + 1) = a at *
  have hm : 0 ≤ q2 % BB f ∧ q2 % BB f < BB f := by rcases fb.2.1 with h | h | h <;> rw [h] <;> omega
  by_cases o : a ≥ RR f - 1
  · rw [if_pos o]; exact over_wf f mode n
  · rw [if_neg o]
    show wf f (sgn f n + a * BB f + q2 % BB f)
    rw [Int.add_assoc]
    apply sgn_wf
    have h1 : (a + 1) * BB f ≤ RR f * BB f := Int.mul_le_mul_of_nonneg_right (by omega) (by omega)
    rw [Int.add_mul, ← TT_RB] at h1
    have h2 : 0 ≤ a * BB f := Int.mul_nonneg ha (by omega)
    omega
theorem pk_wf (f mode : Int) (n : Bool) (e N : Int) (m : Bool) (hN : 0 ≤ N) : wf f (pk f mode n e N m).1 := by
  have fb := fmt_bd f
  have hq := q_bd f e N hN
  unfold pk
  split
  · have := sgn_wf f n (x := 0) (by omega); simpa using this
  · refine fin2_wf f mode n _ _ _ _ _ ?_ ?_ ?_
    · unfold fin1; split <;> omega
    · unfold fin1; split <;> omega
    · unfold unitS; split <;> omega
theorem tot_wf (f mode T : Int) : wf f (totS f mode T).1 := by
  have fb := fmt_bd f
  unfold totS
  split
  · have := sgn_wf f (decide (mode = 3)) (x := 0) (by omega); simpa using this
  · exact pk_wf _ _ _ _ _ _ (by split <;> omega)
theorem NN_wf (f : Int) : wf f (NN f) := by
  have ib := IN_bd f
  have fb := fmt_bd f
  unfold NN; exact ⟨by omega, by omega⟩
theorem infs_wf (f : Int) (n : Bool) : wf f (sgn f n + IN f) := by
  have ib := IN_bd f
  have fb := fmt_bd f
  exact sgn_wf f n (by omega)
theorem sum_wf (f mode : Int) (n : Bool) (e N : Int) (m : Bool) (d M : Int) : wf f (sumS f mode n e N m d M).1 := by
  have fb := fmt_bd f
  unfold sumS
  split
  · have := sgn_wf f n (x := 0) (by omega); simpa using this
  · exact tot_wf _ _ _
theorem fma_wf (f mode a b c : Int) : wf f (fmaS f mode a b c).1 := by
  unfold fmaS
  split
  · exact NN_wf f
  · split
    · split
      · exact NN_wf f
      · exact infs_wf f _
    · split
      · exact infs_wf f _
      · exact sum_wf _ _ _ _ _ _ _ _
theorem mul_wf (f mode a b : Int) : wf f (mulS f mode a b).1 := by
  unfold mulS
  split
  · exact NN_wf f
  · split
    · exact NN_wf f
    · split
      · exact infs_wf f _
      · exact pk_wf _ _ _ _ _ _ (sig_mul f a b).1.1
def fma (a b c : Int) : Int := (fmaS 2 0 a b c).1
theorem fma_w (a b c : Int) : w32 (fma a b c) := wf_w (fma_wf 2 0 a b c)
theorem ffma_eq {a b c : Int} (ha : w32 a) (hb : w32 b) (hc : w32 c) : F_937 a b c = some (fma a b c) := by
  unfold F_937; rw [fma_eq 2 0 ha hb hc]; rfl
def toS (f g mode a : Int) : Int × ExcT × Unit :=
  if nan f a then (NN g, (loud f a, false, false, false, false, ()), ())
  else if inff f a then (sgn g (sg f a) + IN g, EXC0, ())
  else pk g mode (sg f a) (xp f a) (sig f a) false
theorem sig_w64 (f a : Int) : w64 (sig f a) := by
  have A := sig_bd f a
  have fb := fmt_bd f
  exact ⟨A.1, by omega⟩
theorem to_eq (f g mode : Int) {a : Int} (ha : w32 a) : F_956 f g mode a = some (toS f g mode a) := by
  have xa := xp_bd f a
  have k1 := kl_nan f a
  have k3 := kl_inf f a
  have kb := kl_le f a
  unfold F_956 F_978 toS
  rw [class_eq f ha.1 ha.2, nan_w, neg_eq f ha, of_eq f ha]
  simp only [Option.bind_some, bif_eq, inf_eq]
  rw [pack_eq g mode _ _ (sig_w64 f a), show min (max (xp f a) (-10000)) 10000 = xp f a by omega]
  simp only [Option.bind_some]
  by_cases h4 : kl f a = 4
  · have hn : nan f a = true := by unfold nan; simp; exact k1.1 (by omega)
    have hl : loud f a = false := by unfold loud; simp; omega
    rw [if_pos h4, hn, hl]; rfl
  rw [if_neg h4]
  by_cases h5 : kl f a = 5
  · have hn : nan f a = true := by unfold nan; simp; exact k1.1 (by omega)
    have hl : loud f a = true := by unfold loud; simp; omega
    rw [if_pos h5, hn, hl]; rfl
  rw [if_neg h5]
  have hn : nan f a = false := by
    unfold nan; apply decide_eq_false; intro k; have := k1.2 k; omega
  rw [hn]
  by_cases h3 : kl f a = 3
  · have hi : inff f a = true := by unfold inff; simp; exact k3.1 h3
    rw [if_pos h3, hi]; rfl
  · have hi : inff f a = false := by unfold inff; apply decide_eq_false; intro k; exact h3 (k3.2 k)
    rw [if_neg h3, hi]; rfl
def widen (f a : Int) : Int := (toS f 2 0 a).1
theorem to_wf (f g mode a : Int) : wf g (toS f g mode a).1 := by
  unfold toS
  split
  · exact NN_wf g
  · split
    · exact infs_wf g _
    · exact pk_wf _ _ _ _ _ _ (sig_bd f a).1
theorem widen_w (f a : Int) : w32 (widen f a) := wf_w (to_wf f 2 0 a)
theorem widen_eq (f : Int) {a : Int} (ha : w32 a) : F_957 f a = some (widen f a) := by
  unfold F_957; rw [to_eq f 2 0 ha]; rfl
def addS (f mode a b : Int) : Int × ExcT × Unit :=
  if nan f a || nan f b then (NN f, (loud f a || loud f b, false, false, false, false, ()), ())
  else if inff f a && (inff f b && !(sg f a == sg f b)) then (NN f, (true, false, false, false, false, ()), ())
  else if inff f a then (sgn f (sg f a) + IN f, EXC0, ())
  else if inff f b then (sgn f (sg f b) + IN f, EXC0, ())
  else sumS f mode (sg f a) (xp f a) (sig f a) (sg f b) (xp f b) (sig f b)
theorem add_eq (f mode : Int) {a b : Int} (ha : w32 a) (hb : w32 b) : F_93b f mode a b = some (addS f mode a b) := by
  have xa := xp_bd f a
  have xb := xp_bd f b
  have hs := psum_eq f mode (sg f a) (sg f b) (N := sig f a) (M := sig f b) (sig_48 f a) (sig_48 f b) (show -298 ≤ xp f a ∧ xp f a ≤ 300 by omega) (show -298 ≤ xp f b ∧ xp f b ≤ 300 by omega)
  unfold F_93b F_967 F_978 addS
  rw [snans_eq f [a, b] (by simp) (by simpa using ⟨ha, hb⟩), neg_eq f ha, neg_eq f hb, isinf_eq f ha, isinf_eq f hb, of_eq f ha, of_eq f hb, nan_w]
  simp only [Option.bind_some, List.any_cons, List.any_nil, Bool.or_false, inf_eq]
  rw [hs]
  generalize sumS f mode (sg f a) (xp f a) (sig f a) (sg f b) (xp f b) (sig f b) = W
  rcases cls f a with ⟨a1, a3, a4⟩ | ⟨a1, a2, a3, a4⟩ | ⟨a1, a2, a3, a4⟩ | ⟨a1, a2, a3, a4⟩ <;> rcases cls f b with ⟨b1, b3, b4⟩ | ⟨b1, b2, b3, b4⟩ | ⟨b1, b2, b3, b4⟩ | ⟨b1, b2, b3, b4⟩ <;> simp only [a1, a3, a4, b1, b3, b4] <;> first | rfl | (cases sg f a <;> cases sg f b <;> rfl)
theorem add_wf (f mode a b : Int) : wf f (addS f mode a b).1 := by
  unfold addS
  split
  · exact NN_wf f
  · split
    · exact NN_wf f
    · split
      · exact infs_wf f _
      · split
        · exact infs_wf f _
        · exact sum_wf _ _ _ _ _ _ _ _
def addf (a b : Int) : Int := (addS 2 0 a b).1
theorem addf_w (a b : Int) : w32 (addf a b) := wf_w (add_wf 2 0 a b)
theorem fadd_eq {a b : Int} (ha : w32 a) (hb : w32 b) : F_91c a b = some (addf a b) := by
  unfold F_91c; rw [add_eq 2 0 ha hb]; rfl
def lay1 (h : Nat → Int) (n i : Nat) : List Int := (List.range i).map h ++ List.replicate (n - i) 0
theorem lay1_len (h : Nat → Int) {n i : Nat} (hi : i ≤ n) : (lay1 h n i).length = n := by unfold lay1; simp; omega
theorem lay1_set (h : Nat → Int) {n i : Nat} (hi : i < n) : (lay1 h n i).set i (h i) = lay1 h n (i + 1) := by
  unfold lay1
  rw [List.set_append, if_neg (by simp), List.range_succ, List.map_append, List.append_assoc]
  congr 1
  rw [List.length_map, List.length_range, Nat.sub_self, show n - i = (n - (i + 1)) + 1 by omega, List.replicate_succ]
  rfl
theorem lay1_zero (h : Nat → Int) (n : Nat) : lay1 h n 0 = List.replicate n 0 := by unfold lay1; simp
theorem lay1_all (h : Nat → Int) (n : Nat) : lay1 h n n = (List.range n).map h := by unfold lay1; simp
theorem range_wl {h : Nat → Int} {n : Nat} (w : ∀ i, w32 (h i)) : wl ((List.range n).map h) := by
  intro a ha; obtain ⟨i, _, rfl⟩ := List.mem_map.1 ha; exact w i
theorem eachW_eq (t b : TsT) (g : Int) (hl : wl t.2.2.2.1) (hn : t.2.2.2.1.length ≤ 1073741824) :
    F_9a5 t g b = some ((t.1, t.2.1, g, (List.range t.2.2.2.1.length).map (fun i => widen b.2.2.1 (t.2.2.2.1.getD i 0)), ()), (b, ())) := by
  obtain ⟨r, c, f, l, ⟨⟩⟩ := t
  obtain ⟨b1, b2, b3, b4, ⟨⟩⟩ := b
  simp only at hl hn ⊢
  have := lim_seq (st := st_9a5_0) (fun i => ((l, ((l.length : Int), ((i : Int), ()))), ((b1, (b2, (b3, (b4, ())))), (((0:Int), ((0:Int), ((0:Int), ()))), ((r, (c, (g, (l.length, ())))), (lay1 (fun i => widen b3 (l.getD i 0)) l.length i, ()))))))
    (b := ((), ((b1, (b2, (b3, (b4, ())))), (((0:Int), ((0:Int), ((0:Int), ()))), ((r, (c, (g, (l.length, ())))), (lay1 (fun i => widen b3 (l.getD i 0)) l.length l.length, ())))))) l.length
    (fun i hi R kn ko => by
      have hll := lay1_len (fun i => widen b3 (l.getD i 0)) (Nat.le_of_lt hi)
      have hls := lay1_set (fun i => widen b3 (l.getD i 0)) hi
      unfold st_9a5_0 F_95f
      dsimp only at hls ⊢
      simp only [List.take_length, bif_dec, hll, Int.toNat_natCast]
      rw [if_pos (by omega), if_pos (by omega), widen_eq b3 (wl_get hl i)]
      simp only [Option.bind_some]
      rw [if_pos (by omega), if_pos (by omega), show 0 + i * 1 = i by omega, hls, wi64 (by omega), show ((i + 1 : Nat) : Int) = (i : Int) + 1 by omega])
    (fun R kn ko => by
      unfold st_9a5_0
      dsimp only
      simp only [List.take_length, bif_dec]
      rw [if_neg (by omega)])
  rw [lay1_zero] at this
  unfold F_9a5
  dsimp only
  simp only [List.take_length, bif_dec, Int.toNat_natCast]
  rw [if_pos (by omega)]
  have e : lim st_9a5_0 ((l, ((l.length : Int), ((0 : Int), ()))), ((b1, (b2, (b3, (b4, ())))), (((0:Int), ((0:Int), ((0:Int), ()))), ((r, (c, (g, (l.length, ())))), (List.replicate l.length 0, ()))))) = _ := this
  rw [e]
  simp only [Option.bind_some, List.take_length, List.drop_zero, lay1_all]
  have hlen : ((List.range l.length).map (fun i => widen b3 (l.getD i 0))).length = l.length := by simp
  rw [List.take_of_length_le (by omega)]
def wideL (t : TsT) : List Int := (List.range t.2.2.2.1.length).map (fun i => widen t.2.2.1 (t.2.2.2.1.getD i 0))
abbrev noT : TsT := (0, 0, 0, [], ())
theorem wide_eq (t : TsT) (hl : wl t.2.2.2.1) (hn : t.2.2.2.1.length ≤ 1073741824) :
    F_936 t = some (if rightS t then ((t.1, t.2.1, 2, wideL t, ()), 0, ()) else (noT, 21, ())) := by
  obtain ⟨r, c, f, l, ⟨⟩⟩ := t
  simp only at hl hn
  unfold F_936
  dsimp only
  simp only [List.take_length]
  rw [right_eq (r, c, f, l, ()) hl (by simp only; omega), eachW_eq (r, c, f, l, ()) (r, c, f, l, ()) 2 hl hn]
  simp only [Option.bind_some, List.take_length]
  cases rightS (r, c, f, l, ()) <;> rfl
def turnS (f a : Int) : Int := if sg f a then a % (2 * TT f) - TT f else a % (2 * TT f) + TT f
theorem turn_wf' (f : Int) {a : Int} (h : w32 a) : wf f (turnS f a) := by
  have hb := mod_bd f a
  have hs := sg_iff f a h.1
  have hT := TT_cs f
  unfold turnS
  cases hq : sg f a
  · have : ¬ TT f ≤ a % (2 * TT f) := fun k => by rw [hs.2 k] at hq; cases hq
    simp; exact ⟨by omega, by omega⟩
  · have := hs.1 hq; simp; exact ⟨by omega, by omega⟩
theorem turn_eq2 (f : Int) {a : Int} (h : w32 a) : F_96b f a = some (turnS f a) := turn_eq f h
def subS (f mode a b : Int) : Int × ExcT × Unit :=
  if nan f a || nan f b then (NN f, (loud f a || loud f b, false, false, false, false, ()), ()) else addS f mode a (turnS f b)
theorem sub_eq (f mode : Int) {a b : Int} (ha : w32 a) (hb : w32 b) : F_93c f mode a b = some (subS f mode a b) := by
  unfold F_93c subS
  rw [snans_eq f [a, b] (by simp) (by simpa using ⟨ha, hb⟩), turn_eq2 f hb]
  simp only [Option.bind_some, List.any_cons, List.any_nil, Bool.or_false]
  rw [add_eq f mode ha (wf_w (turn_wf' f hb))]
  cases nan f a <;> cases nan f b <;> rfl
theorem sub_wf (f mode a b : Int) : wf f (subS f mode a b).1 := by
  unfold subS; split
  · exact NN_wf f
  · exact add_wf _ _ _ _
def fintS (f mode v : Int) : Int × ExcT × Unit := pk f mode (decide (v < 0)) 0 (if v < 0 then -v else v) false
theorem fint_eq (f mode : Int) {v : Int} (h : -9223372036854775808 ≤ v ∧ v ≤ 9223372036854775807) : F_939 f mode v = some (fintS f mode v) := by
  unfold F_939 F_962 fintS
  have e : (bif decide (v < 0) then some (IntKind.u64.wrap (0 - IntKind.u64.wrap v)) else some (IntKind.u64.wrap v)) = some (if v < 0 then -v else v) := by
    rw [bif_dec]
    by_cases k : v < 0
    · rw [if_pos k, if_pos k, wu64_eq, wu64_eq]; congr 1; omega
    · rw [if_neg k, if_neg k, wu64 (by omega)]
  rw [e]
  simp only [Option.bind_some]
  rw [pack_eq f mode _ _ (show w64 (if v < 0 then -v else v) from ⟨by split <;> omega, by split <;> omega⟩)]
  rfl
def scaleS (f mode a n : Int) : Int × ExcT × Unit :=
  if nan f a then (NN f, (loud f a, false, false, false, false, ()), ())
  else if inff f a || zr f a then (a % (2 * TT f), EXC0, ())
  else pk f mode (sg f a) (xp f a + min (max n (-5000)) 5000) (sig f a) false
theorem scale_eq (f mode : Int) {a : Int} (n : Int) (ha : w32 a) : F_975 f mode a n = some (scaleS f mode a n) := by
  have xa := xp_bd f a
  unfold F_975 F_997 scaleS
  rw [snans_eq f [a] (by simp) (by simpa using ha), mask_eq, isinf_eq f ha, iszero_eq f ha, of_eq f ha]
  simp only [Option.bind_some, List.any_cons, List.any_nil, Bool.or_false, mn_eq, mx_eq, and_TT f ha.1 ha.2]
  rw [wi64 (by omega), pack_eq f mode _ _ (sig_w64 f a), show min (max (xp f a + min (max n (-5000)) 5000) (-10000)) 10000 = xp f a + min (max n (-5000)) 5000 by omega]
  rcases cls f a with ⟨a1, a3, a4⟩ | ⟨a1, a2, a3, a4⟩ | ⟨a1, a2, a3, a4⟩ | ⟨a1, a2, a3, a4⟩ <;> simp only [a1, a3, a4] <;> rfl
def unitsW (mode : Int) (n : Bool) (e N : Int) : Int × Bool :=
  if e + ln N > 40 then (1099511627776, false)
  else (fin1 mode n (qS N (-e)) (halfS N (-e)) (restS N (-e) false), halfS N (-e) || restS N (-e) false)
theorem toq_bd {e N : Int} (hN : 0 ≤ N) (h : ¬ e + ln N > 40) : 0 ≤ qS N (-e) ∧ qS N (-e) ≤ 1099511627776 := by
  unfold qS
  by_cases h0 : N = 0
  · subst h0; split <;> simp
  have hp : 0 < N := by omega
  rw [ln_pos hp] at h
  have hlt := lg_lt hp
  split
  · have c := p2_pos (- -e).toNat
    refine ⟨Int.mul_nonneg hN (by omega), ?_⟩
    have : N * 2 ^ (- -e).toNat < 2 ^ (lg N + 1) * 2 ^ (- -e).toNat := Int.mul_lt_mul_of_pos_right hlt c
    rw [← p2_add] at this
    have := p2_le (show lg N + 1 + (- -e).toNat ≤ 40 by omega)
    rw [show (2 : Int) ^ 40 = 1099511627776 from rfl] at this
    omega
  · have c := p2_pos (-e).toNat
    refine ⟨Int.ediv_nonneg hN (by omega), ?_⟩
    have : N / 2 ^ (-e).toNat < 2 ^ 40 := by
      rw [Int.ediv_lt_iff_lt_mul c, ← p2_add]
      have := p2_le (show lg N + 1 ≤ 40 + (-e).toNat by omega)
      omega
    rw [show (2 : Int) ^ 40 = 1099511627776 from rfl] at this
    omega
def tointS (f mode a : Int) : Int × ExcT × Unit :=
  if nan f a || inff f a then (-2147483648, (true, false, false, false, false, ()), ())
  else if (if sg f a then -(unitsW mode (sg f a) (xp f a) (sig f a)).1 else (unitsW mode (sg f a) (xp f a) (sig f a)).1) = IntKind.wrap .i32 (if sg f a then -(unitsW mode (sg f a) (xp f a) (sig f a)).1 else (unitsW mode (sg f a) (xp f a) (sig f a)).1)
    then (IntKind.wrap .i32 (if sg f a then -(unitsW mode (sg f a) (xp f a) (sig f a)).1 else (unitsW mode (sg f a) (xp f a) (sig f a)).1), (false, false, false, false, (unitsW mode (sg f a) (xp f a) (sig f a)).2, ()), ())
  else (-2147483648, (true, false, false, false, false, ()), ())
theorem wunits_eq (mode : Int) (n : Bool) {e N : Int} (hN : w64 N) (he : -1000 ≤ e ∧ e ≤ 1000) : F_995 (n, e, N, false, ()) mode = some ((unitsW mode n e N).1, (unitsW mode n e N).2, ()) ∧ 0 ≤ (unitsW mode n e N).1 ∧ (unitsW mode n e N).1 ≤ 1099511627777 := by
  have hl := ln_bd (k := 64) hN.1 (by have : (2 : Int) ^ 64 = 18446744073709551616 := rfl; have := hN.2; omega)
  unfold F_995 unitsW
  dsimp only
  rw [len_eq hN]
  simp only [Option.bind_some, bif_dec]
  rw [wi64 (n := e + ln N) (by omega), wi64 (n := 0 - e) (by omega)]
  by_cases h : e + ln N > 40
  · rw [if_pos h, if_pos h]; exact ⟨rfl, by decide, by decide⟩
  · rw [if_neg h, if_neg h]
    have qb := toq_bd hN.1 h
    rw [show (0 : Int) - e = -e by omega, units_eq hN (by omega) (by omega) false]
    simp only [Option.bind_some]
    rw [up_eq mode n ⟨qb.1, by omega⟩ (halfS N (-e)) (restS N (-e) false) (leftS (halfS N (-e)) (restS N (-e) false)) rfl]
    simp only [Option.bind_some]
    rw [wu64 (n := qS N (-e) + 1) (by omega)]
    unfold fin1
    generalize upS mode n (decide (qS N (-e) % 2 = 1)) (halfS N (-e)) (restS N (-e) false) = b
    refine ⟨?_, ?_, ?_⟩
    · cases b <;> cases halfS N (-e) <;> cases restS N (-e) false <;> rfl
    · cases b <;> simp <;> omega
    · cases b <;> simp <;> omega
theorem toint_eq (f mode : Int) {a : Int} (ha : w32 a) : F_964 f mode a = some (tointS f mode a) := by
  have xa := xp_bd f a
  have hw := wunits_eq mode (sg f a) (sig_w64 f a) (show -1000 ≤ xp f a ∧ xp f a ≤ 1000 by omega)
  have hf := ex_fin f a
  have ft : F_989 f a = some (!(nan f a || inff f a)) := by
    unfold F_989
    rw [parts_eq f ha.1 ha.2, top_eq]
    simp only [Option.bind_some]
    congr 1
    rw [Bool.eq_iff_iff]
    simp only [decide_eq_true_eq, Bool.not_eq_true', Bool.or_eq_false_iff]
    rw [hf]
    unfold nan inff
    simp only [decide_eq_false_iff_not]
    omega
  unfold F_964 tointS
  rw [ft, of_eq f ha]
  simp only [Option.bind_some]
  rw [hw.1]
  simp only [Option.bind_some]
  obtain ⟨h1, h2⟩ := hw.2
  generalize (unitsW mode (sg f a) (xp f a) (sig f a)).1 = q at *
  generalize (unitsW mode (sg f a) (xp f a) (sig f a)).2 = b at *
  rw [wi64 (n := q) (by omega), wi64 (n := 0 - q) (by omega)]
  have hx : (bif sg f a then 0 - q else q) = (if sg f a then -q else q) := by cases sg f a <;> simp
  rw [hx]
  have hb : -1099511627777 ≤ (if sg f a then -q else q) ∧ (if sg f a then -q else q) ≤ 1099511627777 := by split <;> omega
  generalize (if sg f a then -q else q) = r at *
  have hw32 : IntKind.i64.wrap (IntKind.i32.wrap r) = IntKind.i32.wrap r := by
    apply wi64
    simp only [IntKind.wrap, IntKind.bits, IntKind.signed]; simp
    split <;> omega
  rw [hw32, bif_eq]
  cases nan f a <;> cases inff f a <;> simp only [Bool.or_true, Bool.or_false, Bool.not_true, Bool.not_false, cond_true, cond_false, if_true, if_false, Bool.false_eq_true] <;> (try rfl)
  by_cases k : r = IntKind.i32.wrap r
  · rw [if_pos k, if_pos k]
  · rw [if_neg k, if_neg k]
set_option maxHeartbeats 8000000
def divS (f mode a b : Int) : Int × ExcT × Unit :=
  if nan f a || nan f b then (NN f, (loud f a || loud f b, false, false, false, false, ()), ())
  else if (zr f a && zr f b) || (inff f a && inff f b) then (NN f, (true, false, false, false, false, ()), ())
  else if inff f a then (sgn f (!(sg f a == sg f b)) + IN f, EXC0, ())
  else if inff f b || zr f a then (sgn f (!(sg f a == sg f b)), EXC0, ())
  else if zr f b then (sgn f (!(sg f a == sg f b)) + IN f, (false, true, false, false, false, ()), ())
  else pk f mode (!(sg f a == sg f b)) (xp f a - (61 - lg (sig f a)) - xp f b) (sig f a * 2 ^ (61 - lg (sig f a)) / sig f b) (decide (sig f a * 2 ^ (61 - lg (sig f a)) % sig f b ≠ 0))
theorem div_eq (f mode : Int) {a b : Int} (ha : w32 a) (hb : w32 b) : F_949 f mode a b = some (divS f mode a b) := by
  have xa := xp_bd f a
  have xb := xp_bd f b
  have sa := sig_bd f a
  have sb := sig_bd f b
  have fb := fmt_bd f
  have c61 : (2 : Int) ^ 62 = 4611686018427387904 := rfl
  have ka := kl_le f a
  have kb := kl_le f b
  have na : nan f a = decide (kl f a ≥ 4) := by unfold nan; exact decide_eq_decide.2 (kl_nan f a).symm
  have nb : nan f b = decide (kl f b ≥ 4) := by unfold nan; exact decide_eq_decide.2 (kl_nan f b).symm
  have za : zr f a = decide (kl f a = 0) := by unfold zr; exact decide_eq_decide.2 (kl_zero f a).symm
  have zb : zr f b = decide (kl f b = 0) := by unfold zr; exact decide_eq_decide.2 (kl_zero f b).symm
  have ia : inff f a = decide (kl f a = 3) := by unfold inff; exact decide_eq_decide.2 (kl_inf f a).symm
  have ib : inff f b = decide (kl f b = 3) := by unfold inff; exact decide_eq_decide.2 (kl_inf f b).symm
  have road : sig f a ≠ 0 → sig f b ≠ 0 →
      ((F_968 f a).bind fun r26 =>
        (F_968 f b).bind fun r28 =>
        (F_944 r26.2.2.1).bind fun r31 =>
        (F_97a r26.2.2.1 (IntKind.wrap .i64 ((0:Int) - (IntKind.wrap .i64 ((62:Int) - r31))))).bind fun r33 =>
        bif (r28.2.2.1 == (0:Int)) then none else
        bif (r28.2.2.1 == (0:Int)) then none else
        (F_961 f mode (!(sg f a == sg f b)) (IntKind.wrap .i64 ((IntKind.wrap .i64 (r26.2.1 - (IntKind.wrap .i64 ((62:Int) - r31)))) - r28.2.1)) (IntKind.wrap .u64 (Int.tdiv r33.1 r28.2.2.1)) ((Int.tmod r33.1 r28.2.2.1) != (0:Int))).bind fun r34 =>
        (some r34)) = some (pk f mode (!(sg f a == sg f b)) (xp f a - (61 - lg (sig f a)) - xp f b) (sig f a * 2 ^ (61 - lg (sig f a)) / sig f b) (decide (sig f a * 2 ^ (61 - lg (sig f a)) % sig f b ≠ 0))) := by
    intro h1 h2
    have hp : 0 < sig f a := by omega
    have hq : 0 < sig f b := by omega
    have hl := lg_bd (k := 62) hp (by omega)
    have hlt := lg_lt hp
    have hle := lg_le hp
    have hb2 : sig f a * 2 ^ (61 - lg (sig f a)) < 2 ^ 62 := by
      have := Int.mul_lt_mul_of_pos_right hlt (p2_pos (61 - lg (sig f a)))
      rw [← p2_add, show lg (sig f a) + 1 + (61 - lg (sig f a)) = 62 by omega] at this
      exact this
    have hb0 : 0 ≤ sig f a * 2 ^ (61 - lg (sig f a)) := Int.mul_nonneg sa.1 (by have := p2_pos (61 - lg (sig f a)); omega)
    rw [of_eq f ha, of_eq f hb]
    simp only [Option.bind_some]
    rw [len_eq (sig_w64 f a), ln_pos hp]
    simp only [Option.bind_some]
    rw [wi64 (n := 62 - ((lg (sig f a) : Int) + 1)) (by omega), wi64 (n := 0 - (62 - ((lg (sig f a) : Int) + 1))) (by omega)]
    have hs : F_97a (sig f a) (0 - (62 - ((lg (sig f a) : Int) + 1))) = some (sig f a * 2 ^ (61 - lg (sig f a)), false, ()) := by
      by_cases h0 : lg (sig f a) = 61
      · rw [h0, show 0 - (62 - (((61 : Nat) : Int) + 1)) = 0 by omega, shr_eq (sig_w64 f a) (by omega)]; simp
      · have := shl_eq (sig_w64 f a) (n := 61 - (lg (sig f a) : Int)) (by omega) (by
          rw [show (61 - (lg (sig f a) : Int)).toNat = 61 - lg (sig f a) by omega]; omega)
        rw [show 0 - (62 - ((lg (sig f a) : Int) + 1)) = -(61 - (lg (sig f a) : Int)) by omega, this]
        rw [show (61 - (lg (sig f a) : Int)).toNat = 61 - lg (sig f a) by omega]
    rw [hs]
    simp only [Option.bind_some]
    have hz : (sig f b == 0) = false := beq_false_of_ne h2
    rw [hz]
    simp only [cond_false]
    rw [tdiv_nn hb0, tmod_nn hb0]
    have hd0 : 0 ≤ sig f a * 2 ^ (61 - lg (sig f a)) / sig f b := Int.ediv_nonneg hb0 (by omega)
    have hd1 : sig f a * 2 ^ (61 - lg (sig f a)) / sig f b ≤ sig f a * 2 ^ (61 - lg (sig f a)) := Int.ediv_le_self _ hb0
    rw [wu64 (n := sig f a * 2 ^ (61 - lg (sig f a)) / sig f b) (by omega), wi64 (n := xp f a - (62 - ((lg (sig f a) : Int) + 1))) (by omega), wi64 (by omega)]
    rw [pack_eq f mode _ _ (show w64 (sig f a * 2 ^ (61 - lg (sig f a)) / sig f b) from ⟨hd0, by omega⟩)]
    simp only [Option.bind_some]
    rw [show min (max (xp f a - (62 - ((lg (sig f a) : Int) + 1)) - xp f b) (-10000)) 10000 = xp f a - (61 - lg (sig f a)) - xp f b by omega]
    have : (sig f a * 2 ^ (61 - lg (sig f a)) % sig f b != 0) = decide (sig f a * 2 ^ (61 - lg (sig f a)) % sig f b ≠ 0) := by rw [Bool.eq_iff_iff]; simp
    rw [this]
  unfold F_949 F_978 divS
  rw [snans_eq f [a, b] (by simp) (by simpa using ⟨ha, hb⟩), neg_eq f ha, neg_eq f hb, class_eq f ha.1 ha.2, class_eq f hb.1 hb.2, nan_w]
  simp only [Option.bind_some, List.any_cons, List.any_nil, Bool.or_false, inf_eq, zero_eq]
  have hsa : nan f a = false → inff f a = false → zr f a = false → sig f a ≠ 0 := fun h1 h2 h3 k => by rw [(sig_zero f a h1 h2).1 k] at h3; cases h3
  have hsb : nan f b = false → inff f b = false → zr f b = false → sig f b ≠ 0 := fun h1 h2 h3 k => by rw [(sig_zero f b h1 h2).1 k] at h3; cases h3
  rw [na, nb] at *
  rw [za, zb, ia, ib] at *
  generalize pk f mode _ _ _ _ = W at *
  generalize loud f a = la at *
  generalize loud f b = lb at *
  rcases (show kl f a = 0 ∨ kl f a = 1 ∨ kl f a = 2 ∨ kl f a = 3 ∨ kl f a ≥ 4 by omega) with p | p | p | p | p <;>
  rcases (show kl f b = 0 ∨ kl f b = 1 ∨ kl f b = 2 ∨ kl f b = 3 ∨ kl f b ≥ 4 by omega) with q | q | q | q | q
  all_goals (first | (have p' : decide (kl f a ≥ 4) = true := decide_eq_true p) | (have p' : decide (kl f a ≥ 4) = false := decide_eq_false (by omega)))
  all_goals (first | (have q' : decide (kl f b ≥ 4) = true := decide_eq_true q) | (have q' : decide (kl f b ≥ 4) = false := decide_eq_false (by omega)))
  all_goals rw [p', q']
  all_goals (try (have r1 := road (hsa (by rw [p']) (by rw [p]; rfl) (by rw [p]; rfl)) (hsb (by rw [q']) (by rw [q]; rfl) (by rw [q]; rfl))))
  all_goals clear road hsa hsb na nb za zb ia ib ka kb xa xb
  all_goals (first
    | (rw [Bool.true_or]; rfl)
    | (rw [Bool.or_true]; rfl)
    | (rw [p, q]; rfl)
    | (rw [p, q]; exact r1)
    | skip)
theorem fabove_eq {a b : Int} (ha : w32 a) (hb : w32 b) : F_946 a b = some (lt 2 b a) := by
  unfold F_946; rw [less_eq 2 hb ha]; rfl
theorem fisnan_eq {a : Int} (ha : w32 a) : F_93d a = some (nan 2 a) := by
  unfold F_93d; rw [isnan_eq 2 ha]; rfl
def mulf (a b : Int) : Int := (mulS 2 0 a b).1
def subf (a b : Int) : Int := (subS 2 0 a b).1
def divf (a b : Int) : Int := (divS 2 0 a b).1
def intf (n : Int) : Int := (fintS 2 0 n).1
def scalef (a n : Int) : Int := (scaleS 2 0 a n).1
def wholef (a : Int) : Int := (tointS 2 0 a).1
theorem mulf_w (a b : Int) : w32 (mulf a b) := wf_w (mul_wf 2 0 a b)
theorem subf_w (a b : Int) : w32 (subf a b) := wf_w (sub_wf 2 0 a b)
theorem div_wf (f mode a b : Int) : wf f (divS f mode a b).1 := by
  unfold divS
  split
  · exact NN_wf f
  split
  · exact NN_wf f
  split
  · exact infs_wf f _
  split
  · have := sgn_wf f (!(sg f a == sg f b)) (x := 0) ⟨Int.le_refl _, by have := TT_cs f; omega⟩
    rw [Int.add_zero] at this
    exact this
  split
  · exact infs_wf f _
  · exact pk_wf _ _ _ _ _ _ (Int.ediv_nonneg (Int.mul_nonneg (sig_bd f a).1 (by have := p2_pos (61 - lg (sig f a)); omega)) (sig_bd f b).1)
theorem divf_w (a b : Int) : w32 (divf a b) := wf_w (div_wf 2 0 a b)
theorem fint_wf (f mode v : Int) : wf f (fintS f mode v).1 := pk_wf _ _ _ _ _ _ (by split <;> omega)
theorem intf_w (n : Int) : w32 (intf n) := wf_w (fint_wf 2 0 n)
theorem scale_wf (f mode a n : Int) : wf f (scaleS f mode a n).1 := by
  unfold scaleS
  split
  · exact NN_wf f
  split
  · have := mod_bd f a; exact ⟨this.1, this.2.1⟩
  · exact pk_wf _ _ _ _ _ _ (sig_bd f a).1
theorem scalef_w (a n : Int) : w32 (scalef a n) := wf_w (scale_wf 2 0 a n)
theorem turn2_w {a : Int} (h : w32 a) : w32 (turnS 2 a) := wf_w (turn_wf' 2 h)
theorem wholef_bd (a : Int) : -2147483648 ≤ wholef a ∧ wholef a ≤ 2147483647 := by
  have wr : ∀ z : Int, -2147483648 ≤ IntKind.wrap .i32 z ∧ IntKind.wrap .i32 z ≤ 2147483647 := fun z => by
    simp only [IntKind.wrap, IntKind.bits, IntKind.signed]; simp
    split <;> omega
  unfold wholef tointS
  generalize (if sg 2 a = true then -(unitsW 0 (sg 2 a) (xp 2 a) (sig 2 a)).1 else (unitsW 0 (sg 2 a) (xp 2 a) (sig 2 a)).1) = z
  by_cases h1 : (nan 2 a || inff 2 a) = true
  · rw [if_pos h1]; exact ⟨by decide, by decide⟩
  rw [if_neg h1]
  by_cases h2 : z = IntKind.wrap .i32 z
  · rw [if_pos h2]; exact wr z
  · rw [if_neg h2]; exact ⟨by decide, by decide⟩
theorem fmul_eq {a b : Int} (ha : w32 a) (hb : w32 b) : F_947 a b = some (mulf a b) := by
  unfold F_947; rw [mul_eq 2 0 ha hb]; rfl
theorem fsub_eq {a b : Int} (ha : w32 a) (hb : w32 b) : F_91d a b = some (subf a b) := by
  unfold F_91d; rw [sub_eq 2 0 ha hb]; rfl
theorem fdiv_eq {a b : Int} (ha : w32 a) (hb : w32 b) : F_91e a b = some (divf a b) := by
  unfold F_91e; rw [div_eq 2 0 ha hb]; rfl
theorem fsint_eq {n : Int} (h : -9223372036854775808 ≤ n ∧ n ≤ 9223372036854775807) : F_91b n = some (intf n) := by
  unfold F_91b; rw [fint_eq 2 0 h]; rfl
theorem fscale_eq {a : Int} (n : Int) (ha : w32 a) : F_945 a n = some (scalef a n) := by
  unfold F_945; rw [scale_eq 2 0 n ha]; rfl
theorem fwhole_eq {a : Int} (ha : w32 a) : F_964 2 0 a = some (tointS 2 0 a) := toint_eq 2 0 ha
theorem xminus {a : Int} (h : w32 a) : bits .xor .u32 (bits .and .u32 a 4294967295) 2147483648 = turnS 2 a := by
  have e : F_96b 2 a = some (bits .xor .u32 (bits .and .u32 a 4294967295) 2147483648) := by
    unfold F_96b F_972 F_97f
    rfl
  rw [turn_eq2 2 h] at e
  exact (Option.some.inj e).symm
theorem sg2 {a : Int} (h : w32 a) : (bits .and .u32 (a / 2147483648) 1 == (1 : Int)) = sg 2 a := by
  have e := and_mask32 (a / 2147483648) 1 (by have := h.1; omega) (by have := h.2; omega) (by decide)
  rw [show (2 : Int) ^ 1 - 1 = 1 from rfl] at e
  rw [e, Bool.eq_iff_iff, sg_iff 2 a h.1]
  have : TT 2 = 2147483648 := rfl
  have h1 := h.1
  have h2 := h.2
  rw [this]
  simp
  omega
def polyS (x p : Int) (l : List Int) : Int := l.foldl (fun p c => fma p x c) p
theorem polyS_w {x p : Int} (hp : w32 p) : ∀ l : List Int, w32 (polyS x p l)
  | [] => hp
  | c :: l => polyS_w (fma_w p x c) l
theorem take_foldl {x p : Int} (l : List Int) {i : Nat} (h : i < l.length) : polyS x p (l.take (i + 1)) = fma (polyS x p (l.take i)) x (l.getD i 0) := by
  have e : l.take (i + 1) = l.take i ++ [l.getD i 0] := by
    rw [List.take_add_one, List.getElem?_eq_getElem h, List.getD_eq_getElem?_getD, List.getElem?_eq_getElem h]; rfl
  rw [e]; unfold polyS; rw [List.foldl_append]; rfl
theorem poly_eq {x p : Int} (hx : w32 x) (hp : w32 p) (l : List Int) (hl : ∀ c ∈ l, w32 c) (hn : l.length ≤ 100) : F_948 x p l = some (polyS x p l) := by
  have key := lim_seq (st := st_948_0) (fun i => ((x, (polyS x p (l.take i), (l, ((l.length : Int), ((i : Int), ()))))), ())) (b := ((polyS x p (l.take l.length), ()), ())) l.length
    (fun i hi R kn ko => by
      unfold st_948_0
      dsimp only
      simp only [List.take_length, bif_dec, Int.toNat_natCast]
      rw [if_pos (by omega), if_pos (by omega), ffma_eq (polyS_w hp _) hx (by
        rw [List.getD_eq_getElem?_getD, List.getElem?_eq_getElem hi]; exact hl _ (List.getElem_mem hi)), take_foldl l hi]
      simp only [Option.bind_some]
      rw [wi64 (n := (i : Int) + 1) (by omega), show ((i + 1 : Nat) : Int) = (i : Int) + 1 by omega])
    (fun R kn ko => by
      unfold st_948_0
      dsimp only
      simp only [List.take_length, bif_dec]
      rw [if_neg (by omega)])
  unfold F_948
  rw [List.take_length]
  rw [show polyS x p (l.take 0) = p from rfl] at key
  rw [List.take_length] at key
  exact (congrArg (fun o => Option.bind o fun r0 => some r0.1.1) key)
def expR (x : Int) : Int := fma (turnS 2 (intf (wholef (mulf x 1069066811)))) 901758606 (fma (turnS 2 (intf (wholef (mulf x 1069066811)))) 1060205056 x)
def expM (x : Int) : Int := scalef (polyS (expR x) 985008993 [1007192201, 1026206379, 1042983595, 1056964608, 1065353216, 1065353216]) (wholef (mulf x 1069066811))
def expS (x : Int) : Int := if nan 2 x then 2143289344 else if lt 2 1118925336 x then 2139095040 else if lt 2 x 3268407733 then 0 else expM x
theorem wlit {a : Int} (h : (decide (0 ≤ a) && decide (a ≤ 4294967295)) = true) : w32 a := by
  simp at h; exact ⟨h.1, by omega⟩
theorem exp_eq {x : Int} (h : w32 x) : F_93a x = some (expS x) := by
  have bw := wholef_bd (mulf x 1069066811)
  unfold F_93a expS
  rw [fisnan_eq h, fabove_eq h (wlit rfl), fabove_eq (wlit rfl) h, fmul_eq h (wlit rfl)]
  simp only [Option.bind_some]
  rw [fwhole_eq (mulf_w _ _)]
  simp only [Option.bind_some]
  rw [show (tointS 2 0 (mulf x 1069066811)).1 = wholef (mulf x 1069066811) from rfl, wi64 (by omega), fsint_eq (by omega)]
  simp only [Option.bind_some]
  rw [xminus (intf_w _), ffma_eq (turn2_w (intf_w _)) (wlit rfl) h]
  simp only [Option.bind_some]
  rw [ffma_eq (turn2_w (intf_w _)) (wlit rfl) (fma_w _ _ _)]
  simp only [Option.bind_some]
  rw [poly_eq (fma_w _ _ _) (wlit rfl) _ (by decide) (by decide)]
  simp only [Option.bind_some]
  rw [fscale_eq _ (polyS_w (wlit rfl) _)]
  cases nan 2 x <;> cases lt 2 1118925336 x <;> cases lt 2 x 3268407733 <;> rfl
theorem exp_w {x : Int} : w32 (expS x) := by
  unfold expS
  split
  · exact wlit rfl
  split
  · exact wlit rfl
  split
  · exact wlit rfl
  · exact scalef_w _ _
def tanT (a : Int) : Int := subf 1065353216 (divf 1073741824 (addf (expS (addf a a)) 1065353216))
def tanA (a : Int) : Int := if lt 2 1091579060 a then 1065353216 else tanT a
def tanS (x : Int) : Int := if nan 2 x then 2143289344 else if zr 2 x then x else if sg 2 x then turnS 2 (tanA (turnS 2 x)) else tanA x
theorem tanT_w (a : Int) : w32 (tanT a) := subf_w _ _
theorem tanA_w (a : Int) : w32 (tanA a) := by
  unfold tanA; split
  · exact wlit rfl
  · exact tanT_w a
theorem tanh_w {x : Int} (h : w32 x) : w32 (tanS x) := by
  unfold tanS
  split
  · exact wlit rfl
  split
  · exact h
  split
  · exact turn2_w (tanA_w _)
  · exact tanA_w _
theorem tanh_eq {x : Int} (h : w32 x) : F_99a x = some (tanS x) := by
  have hr : ∀ (a : Int) (b : Bool), w32 a → ((F_91c a a).bind fun r5 =>
          (F_93a r5).bind fun r6 =>
          (F_91c r6 (1065353216:Int)).bind fun r7 =>
          (F_91e (1073741824:Int) r7).bind fun r8 =>
          (F_91d (1065353216:Int) r8).bind fun r9 =>
          bif b then
            (some (bits .xor .u32 (bits .and .u32 r9 (4294967295:Int)) (2147483648:Int)))
          else
            (some r9)) = some (if b then turnS 2 (tanT a) else tanT a) := by
    intro a b ha
    rw [fadd_eq ha ha]
    simp only [Option.bind_some]
    rw [exp_eq (addf_w _ _)]
    simp only [Option.bind_some]
    rw [fadd_eq exp_w (wlit rfl)]
    simp only [Option.bind_some]
    rw [fdiv_eq (wlit rfl) (addf_w _ _)]
    simp only [Option.bind_some]
    rw [fsub_eq (wlit rfl) (divf_w _ _)]
    simp only [Option.bind_some]
    rw [xminus (subf_w _ _)]
    cases b <;> rfl
  unfold F_99a tanS
  rw [fisnan_eq h, iszero_eq 2 h, sg2 h, xminus h]
  dsimp only
  rw [hr _ _ (turn2_w h), hr _ _ h, fabove_eq (turn2_w h) (wlit rfl), fabove_eq h (wlit rfl)]
  simp only [Option.bind_some]
  unfold tanA
  have e1 : turnS 2 (1065353216 : Int) = 3212836864 := by decide
  cases nan 2 x <;> cases zr 2 x <;> cases sg 2 x <;> cases lt 2 1091579060 (turnS 2 x) <;> cases lt 2 1091579060 x <;> simp [e1]
def innS (x : Int) : Int := mulf 1061962282 (fma 1027024659 (mulf (mulf x x) x) x)
theorem inner_eq {x : Int} (h : w32 x) : F_9a2 x = some (innS x) := by
  unfold F_9a2 innS
  rw [fmul_eq h h]
  simp only [Option.bind_some]
  rw [fmul_eq (mulf_w _ _) h]
  simp only [Option.bind_some]
  rw [ffma_eq (wlit rfl) (mulf_w _ _) h]
  simp only [Option.bind_some]
  rw [fmul_eq (wlit rfl) (fma_w _ _ _)]
  rfl
theorem inn_w (x : Int) : w32 (innS x) := mulf_w _ _
def gelS (x : Int) : Int := mulf (mulf 1056964608 x) (addf 1065353216 (tanS (innS x)))
theorem gelu_eq {x : Int} (h : w32 x) : F_99b x = some (gelS x) := by
  unfold F_99b gelS
  rw [fmul_eq (wlit rfl) h, inner_eq h]
  simp only [Option.bind_some]
  rw [tanh_eq (inn_w x)]
  simp only [Option.bind_some]
  rw [fadd_eq (wlit rfl) (tanh_w (inn_w x))]
  simp only [Option.bind_some]
  rw [fmul_eq (mulf_w _ _) (addf_w _ _)]
  rfl
def narrow (f a : Int) : Int := (toS 2 f 0 a).1
theorem narrow_eq (f : Int) {a : Int} (ha : w32 a) : F_984 f a = some (narrow f a) := by
  unfold F_984; rw [to_eq 2 f 0 ha]; rfl
def relu (x : Int) : Int := if nan 2 x then 2143289344 else if lt 2 0 x then x else 0
theorem w0 : w32 0 := ⟨by decide, by decide⟩
theorem relu_w {x : Int} (h : w32 x) : w32 (relu x) := by
  unfold relu
  split
  · exact ⟨by decide, by decide⟩
  · split
    · exact h
    · exact w0
theorem eachF_eq (t z : TsT) (g k : Int) (v : Int → Int) (hv : ∀ x, w32 x → F_985 k x = some (v x) ∧ w32 (v x)) (hl : wl t.2.2.2.1) (hn : t.2.2.2.1.length ≤ 1073741824) :
    F_9a6 t g z [k] = some ((t.1, t.2.1, g, (List.range t.2.2.2.1.length).map (fun i => narrow z.2.2.1 (v (widen z.2.2.1 (t.2.2.2.1.getD i 0)))), ()), (z, ([k], ()))) := by
  obtain ⟨r, c, f, l, ⟨⟩⟩ := t
  obtain ⟨b1, b2, b3, b4, ⟨⟩⟩ := z
  simp only at hl hn ⊢
  have := lim_seq (st := st_9a6_0) (fun i => ((l, ((l.length : Int), ((i : Int), ()))), ((b1, (b2, (b3, (b4, ())))), ([k], (((0:Int), ((0:Int), ((0:Int), ()))), ((r, (c, (g, (l.length, ())))), (lay1 (fun i => narrow b3 (v (widen b3 (l.getD i 0)))) l.length i, ())))))))
    (b := ((), ((b1, (b2, (b3, (b4, ())))), ([k], (((0:Int), ((0:Int), ((0:Int), ()))), ((r, (c, (g, (l.length, ())))), (lay1 (fun i => narrow b3 (v (widen b3 (l.getD i 0)))) l.length l.length, ()))))))) l.length
    (fun i hi R kn ko => by
      have hll := lay1_len (fun i => narrow b3 (v (widen b3 (l.getD i 0)))) (Nat.le_of_lt hi)
      have hls := lay1_set (fun i => narrow b3 (v (widen b3 (l.getD i 0)))) hi
      have h1 := hv _ (widen_w b3 (l.getD i 0))
      unfold st_9a6_0 F_983
      dsimp only at hls ⊢
      simp only [List.take_length, bif_dec, hll, Int.toNat_natCast]
      rw [if_pos (by omega), if_pos (by omega), if_pos (show 0 < [k].length by simp), widen_eq b3 (wl_get hl i)]
      simp only [Option.bind_some]
      have e0 : List.getD [k] 0 0 = k := rfl
      first | rw [e0] | skip
      rw [h1.1]
      simp only [Option.bind_some]
      rw [narrow_eq b3 h1.2]
      simp only [Option.bind_some]
      rw [if_pos (show (0 : Int) ≤ (i : Int) ∧ (i : Int) < (l.length : Int) by omega), if_pos (show 0 + i * 1 < l.length by omega), show 0 + i * 1 = i by omega, hls, wi64 (by omega), show ((i + 1 : Nat) : Int) = (i : Int) + 1 by omega]
      )
    (fun R kn ko => by
      unfold st_9a6_0
      dsimp only
      simp only [List.take_length, bif_dec]
      rw [if_neg (by omega)])
  rw [lay1_zero] at this
  unfold F_9a6
  dsimp only
  simp only [List.take_length, bif_dec, Int.toNat_natCast]
  rw [if_pos (by omega)]
  have e : lim st_9a6_0 ((l, ((l.length : Int), ((0 : Int), ()))), ((b1, (b2, (b3, (b4, ())))), ([k], (((0:Int), ((0:Int), ((0:Int), ()))), ((r, (c, (g, (l.length, ())))), (List.replicate l.length 0, ())))))) = _ := this
  rw [e]
  simp only [Option.bind_some, List.take_length, List.drop_zero, lay1_all]
  rw [List.take_of_length_le (by simp)]
theorem fwd_eq (t : TsT) (k : Int) (v : Int → Int) (hv : ∀ x, w32 x → F_985 k x = some (v x) ∧ w32 (v x)) (hl : wl t.2.2.2.1) (hn : t.2.2.2.1.length ≤ 1073741824) (hk : 0 ≤ k ∧ k ≤ 3) (hr : rightS t = true) :
    F_951 k t = some ((t.1, t.2.1, t.2.2.1, (List.range t.2.2.2.1.length).map (fun i => narrow t.2.2.1 (v (widen t.2.2.1 (t.2.2.2.1.getD i 0)))), ()), 0, ()) := by
  obtain ⟨r, c, f, l, ⟨⟩⟩ := t
  simp only at hl hn
  unfold F_951 F_982
  dsimp only
  simp only [List.take_length]
  rw [right_eq (r, c, f, l, ()) hl (by simp only; omega), hr, eachF_eq (r, c, f, l, ()) (r, c, f, l, ()) f k v hv hl hn]
  simp only [Option.bind_some, Bool.not_true, cond_false, bif_dec, List.take_length]
  have e0 : List.getD [k] 0 0 = k := rfl
  simp only [e0]
  rw [if_pos hk.1]
  simp [hk.2]
set_option exponentiation.threshold 2000
def mv (m : Int) : Int := sig 2 m * 2 ^ (xp 2 m + 149).toNat
def bw (x y : Nat → Int) : Nat → Int
  | 0 => 0
  | n + 1 => if x n - y n - bw x y n < 0 then 1 else 0
def part (d : Nat → Int) (X : List Int) (i : Nat) : List Int := (List.range i).map d ++ X.drop i
theorem tor_eq (f g mode : Int) {a : Int} (ha : w32 a) : F_915 f g mode a = some (toS f g mode a) := by
  have xa := xp_bd f a
  unfold F_915 toS
  rw [nans_eq f [a] (by simp) (by simpa using ha), nanr_w, infr_c f ha, negr_eq f ha, unpackr_eq f ha]
  simp only [Option.bind_some, List.any_cons, List.any_nil, Bool.or_false, infr_eq]
  rw [packr_eq g mode _ _ (sig_w64 f a), show min (max (xp f a) (-10000)) 10000 = xp f a by omega]
  cases nan f a <;> cases inff f a <;> rfl
def valS (k x : Int) : Int := if k = 0 then x else if k = 1 then relu x else if k = 2 then tanS x else if k = 3 then gelS x else 2143289344
theorem val_w (k : Int) {x : Int} (h : w32 x) : w32 (valS k x) := by
  unfold valS
  split
  · exact h
  split
  · exact relu_w h
  split
  · exact tanh_w h
  split
  · exact mulf_w _ _
  · exact wlit rfl
theorem val_eq (k : Int) {x : Int} (h : w32 x) : F_985 k x = some (valS k x) := by
  unfold F_985 valS relu
  rw [fisnan_eq h, fabove_eq h w0, tanh_eq h, gelu_eq h]
  simp only [Option.bind_some, bif_eq]
  split
  · rfl
  split
  · cases nan 2 x <;> cases lt 2 0 x <;> rfl
  split
  · rfl
  split <;> rfl
def dtf (x y : Nat → Int) : Nat → Int
  | 0 => 0
  | n + 1 => fma (x n) (y n) (dtf x y n)
theorem dtf_w (x y : Nat → Int) : ∀ n, w32 (dtf x y n)
  | 0 => ⟨Int.le_refl 0, by show (0 : Int) < 4294967296; decide⟩
  | n + 1 => fma_w _ _ _
theorem dtf_congr {x y x' y' : Nat → Int} : ∀ {n : Nat}, (∀ i, i < n → x i = x' i ∧ y i = y' i) → dtf x y n = dtf x' y' n
  | 0, _ => rfl
  | n + 1, h => by
    simp only [dtf]
    rw [(h n (by omega)).1, (h n (by omega)).2, dtf_congr fun i hi => h i (by omega)]
abbrev gl (l : List Int) (i : Nat) : Int := l.getD i 0
theorem dot_eq (X Y : List Int) (hX : wl X) (hY : wl Y) (hn : X.length < 4611686018427387904) : F_99e X Y = some (if X.length = Y.length then (dtf (gl X) (gl Y) X.length, 0, ()) else (0, 21, ())) := by
  unfold F_99e
  simp only [List.take_length]
  rw [bif_ne]
  by_cases h : X.length = Y.length
  · rw [if_pos (by omega), if_pos h]
    have := lim_seq (st := st_99e_0) (fun i => ((Y, (dtf (gl X) (gl Y) i, (X, ((X.length : Int), ((i : Int), ()))))), ())) (b := ((dtf (gl X) (gl Y) X.length, ()), ())) X.length
      (fun i hi R kn ko => by
        unfold st_99e_0
        dsimp only
        simp only [List.take_length, bif_dec, Int.toNat_natCast]
        rw [if_pos (by omega), if_pos (by omega), if_pos (by omega), ffma_eq (wl_get hX i) (wl_get hY i) (dtf_w _ _ i), wi64 (by omega), show ((i + 1 : Nat) : Int) = (i : Int) + 1 by omega]
        rfl)
      (fun R kn ko => by
        unfold st_99e_0
        dsimp only
        simp only [bif_dec]
        rw [if_neg (by omega)])
    have e : lim st_99e_0 ((Y, ((0:Int), (X, ((X.length : Int), ((0 : Int), ()))))), ()) = _ := this
    rw [e]; rfl
  · rw [if_neg (by omega), if_neg h]
def rowL (l : List Int) (C i : Nat) : List Int := (l.drop (i * C)).take C
theorem rowL_len {l : List Int} {R C i : Nat} (hl : l.length = R * C) (hi : i < R) : (rowL l C i).length = C := by
  have : (i + 1) * C ≤ R * C := Nat.mul_le_mul_right _ hi
  rw [Nat.add_mul] at this
  unfold rowL; simp; omega
theorem rowL_get {l : List Int} {C i x : Nat} (hx : x < C) : gl (rowL l C i) x = gl l (i * C + x) := by
  unfold gl rowL
  rw [List.getD_eq_getElem?_getD, List.getElem?_take, if_pos hx, List.getElem?_drop, List.getD_eq_getElem?_getD]
theorem rowL_wl {l : List Int} {C i : Nat} (h : wl l) : wl (rowL l C i) := fun a ha => h a (List.mem_of_mem_drop (List.mem_of_mem_take ha))
theorem line_eq (f : Int) (l : List Int) (R C i : Nat) (hR : R ≤ 4096) (hC : C ≤ 4096) (hl : l.length = R * C) (hi : i < R) : F_99f ((R : Int), (C : Int), f, l, ()) (i : Int) = some (rowL l C i) := by
  have h1 : (i + 1) * C ≤ R * C := Nat.mul_le_mul_right _ hi
  have h2 : R * C ≤ 4096 * 4096 := Nat.mul_le_mul hR hC
  have h3 : i * C ≤ (i + 1) * C := Nat.mul_le_mul_right _ (by omega)
  have e1 : ((i : Int) * (C : Int)) = ((i * C : Nat) : Int) := by simp
  have e2 : (((i : Int) + 1) * (C : Int)) = (((i + 1) * C : Nat) : Int) := by simp
  unfold F_99f
  dsimp only
  rw [wi64 (n := (i : Int) + 1) (by omega), e1, e2, wi64 (n := ((i * C : Nat) : Int)) (by omega), wi64 (n := (((i + 1) * C : Nat) : Int)) (by omega), bif_dec, if_pos (by omega), Int.toNat_natCast, Int.toNat_natCast]
  have e3 : (i + 1) * C - i * C = C := by rw [Nat.add_mul]; omega
  rw [e3, List.take_take, Nat.min_self]; rfl
def tau (R C k : Nat) : Nat := (k % R) * C + k / R
def curT (V : List Int) (R C n i : Nat) : List Int := (List.range n).map fun k => if tau R C k < i then gl V (tau R C k) else 0
def turnL (V : List Int) (R C : Nat) : List Int := (List.range (R * C)).map fun k => gl V (tau R C k)
theorem sig_lt {R C i : Nat} (h : i < R * C) : i % C < C ∧ i / C < R ∧ (i % C) * R + i / C < R * C := by
  have hC : 0 < C := by apply Nat.pos_of_ne_zero; intro e; subst e; simp at h
  have a := Nat.mod_lt i hC
  have b : i / C < R := Nat.div_lt_of_lt_mul (by rw [Nat.mul_comm]; exact h)
  refine ⟨a, b, ?_⟩
  have : (i % C + 1) * R ≤ C * R := Nat.mul_le_mul_right _ a
  rw [Nat.add_mul, Nat.mul_comm C] at this; omega
theorem tau_sig {R C i : Nat} (h : i < R * C) : tau R C ((i % C) * R + i / C) = i := by
  obtain ⟨a, b, c⟩ := sig_lt h
  have hR : 0 < R := Nat.lt_of_le_of_lt (Nat.zero_le _) b
  unfold tau
  rw [Nat.mul_comm (i % C) R, Nat.mul_add_mod, Nat.mod_eq_of_lt b, Nat.mul_add_div hR, Nat.div_eq_of_lt b]
  have := Nat.div_add_mod i C
  rw [Nat.mul_comm]; omega
theorem sig_tau {R C k : Nat} (h : k < R * C) : (tau R C k % C) * R + tau R C k / C = k := by
  have hC : 0 < C := by apply Nat.pos_of_ne_zero; intro e; subst e; simp at h
  have hR : 0 < R := by apply Nat.pos_of_ne_zero; intro e; subst e; simp at h
  have b : k / R < C := Nat.div_lt_of_lt_mul h
  unfold tau
  rw [Nat.mul_comm (k % R) C, Nat.mul_add_mod, Nat.mod_eq_of_lt b, Nat.mul_add_div hC, Nat.div_eq_of_lt b]
  have := Nat.div_add_mod k R
  rw [Nat.mul_comm]; omega
theorem tau_lt {R C k : Nat} (h : k < R * C) : tau R C k < R * C := by
  have hC : 0 < C := by apply Nat.pos_of_ne_zero; intro e; subst e; simp at h
  have hR : 0 < R := by apply Nat.pos_of_ne_zero; intro e; subst e; simp at h
  have b : k / R < C := Nat.div_lt_of_lt_mul h
  have a := Nat.mod_lt k hR
  have : (k % R + 1) * C ≤ R * C := Nat.mul_le_mul_right _ a
  rw [Nat.add_mul] at this
  unfold tau; omega
theorem curT_len (V : List Int) (R C n i : Nat) : (curT V R C n i).length = n := by unfold curT; simp
theorem curT_set {V : List Int} {R C i : Nat} (h : i < R * C) : (curT V R C (R * C) i).set ((i % C) * R + i / C) (gl V i) = curT V R C (R * C) (i + 1) := by
  apply List.ext_getElem
  · simp [curT]
  · intro k h1 h2
    rw [List.getElem_set]
    have hk : k < R * C := by simpa [curT] using h2
    simp only [curT, List.getElem_map, List.getElem_range]
    by_cases e : (i % C) * R + i / C = k
    · rw [if_pos e, ← e, tau_sig h, if_pos (by omega)]
    · rw [if_neg e]
      have : tau R C k ≠ i := fun q => e (by rw [← q]; exact sig_tau hk)
      by_cases l : tau R C k < i
      · rw [if_pos l, if_pos (by omega)]
      · rw [if_neg l, if_neg (by omega)]
theorem curT_zero (V : List Int) (R C n : Nat) : curT V R C n 0 = List.replicate n 0 := by
  unfold curT
  apply List.ext_getElem
  · simp
  · intro k h1 h2; simp
theorem curT_all (V : List Int) (R C : Nat) : curT V R C (R * C) (R * C) = turnL V R C := by
  unfold curT turnL
  apply List.map_congr_left
  intro k hk
  rw [if_pos (tau_lt (List.mem_range.1 hk))]
theorem rc_bd {R C : Nat} (hR : R ≤ 4096) (hC : C ≤ 4096) : R * C ≤ 16777216 := Nat.mul_le_mul hR hC
theorem place_eq {R C i : Nat} (hR : R ≤ 4096) (hC : C ≤ 4096) (h : i < R * C) :
    IntKind.i64.wrap (IntKind.i64.wrap (Int.tmod (i : Int) (C : Int) * (R : Int)) + IntKind.i64.wrap (Int.tdiv (i : Int) (C : Int))) = (((i % C) * R + i / C : Nat) : Int) := by
  obtain ⟨a, b, c⟩ := sig_lt h
  have := rc_bd hR hC
  rw [tmod_nn (by omega), tdiv_nn (by omega)]
  have e1 : ((i : Int) % (C : Int)) = ((i % C : Nat) : Int) := by simp
  have e2 : ((i : Int) / (C : Int)) = ((i / C : Nat) : Int) := by simp
  have e3 : (((i % C : Nat) : Int) * (R : Int)) = (((i % C) * R : Nat) : Int) := by simp
  rw [e1, e2, e3]
  generalize (i % C) * R = m at *
  generalize i / C = q at *
  rw [wi64 (n := (m : Int)) (by omega), wi64 (n := (q : Int)) (by omega), wi64 (by omega)]
  omega
theorem turn_loop (R C : Nat) (f : Int) (V : List Int) (z : Int × Int × Int × Unit) (hR : R ≤ 4096) (hC : C ≤ 4096) (hV : V.length = R * C) :
    lim st_9a0_0 ((V, ((V.length : Int), ((0:Int), ()))), (((R : Int), ((C : Int), (f, (V, ())))), (z, (((C : Int), ((R : Int), (f, (V.length, ())))), (List.replicate V.length 0, ()))))) = some ((), (z, (((C : Int), ((R : Int), (f, (V.length, ())))), (turnL V R C, ())))) := by
  have hb := rc_bd hR hC
  have := lim_seq (st := st_9a0_0) (fun i => ((V, ((V.length : Int), ((i : Int), ()))), (((R : Int), ((C : Int), (f, (V, ())))), (z, (((C : Int), ((R : Int), (f, (V.length, ())))), (curT V R C (R * C) i, ()))))))
    (b := ((), (z, (((C : Int), ((R : Int), (f, (V.length, ())))), (turnL V R C, ()))))) V.length
    (fun i hi R' kn ko => by
      rw [hV] at hi
      obtain ⟨a, b, c⟩ := sig_lt hi
      have hll := curT_len V R C (R * C) i
      have hls := curT_set (V := V) hi
      have hCb : ((C : Int) == 0) = false := by simp; omega
      unfold st_9a0_0
      dsimp only
      simp only [List.take_length, bif_dec, hll, Int.toNat_natCast, place_eq hR hC hi, hCb, cond_false]
      generalize (i % C) * R + i / C = s at *
      rw [if_pos (by omega), if_pos (by omega), if_pos (by omega), if_pos (by omega), show 0 + s * 1 = s by omega, hls, wi64 (by omega), show ((i + 1 : Nat) : Int) = (i : Int) + 1 by omega])
    (fun R' kn ko => by
      unfold st_9a0_0
      dsimp only
      simp only [bif_dec]
      rw [if_neg (by omega), hV, curT_all])
  rw [curT_zero, ← hV] at this
  exact this
theorem turn_eq13 (R C : Nat) (f : Int) (V : List Int) (hR : R ≤ 4096) (hC : C ≤ 4096) (hV : V.length = R * C) (hw : wl V) :
    F_9a0 ((R : Int), (C : Int), f, V, ()) = some (if rightS ((R : Int), (C : Int), f, V, ()) then (((C : Int), (R : Int), f, turnL V R C, ()), 0, ()) else (noT, 21, ())) := by
  have hb := rc_bd hR hC
  unfold F_9a0
  dsimp only
  simp only [List.take_length, Int.toNat_natCast]
  rw [right_eq _ hw (by simp only; omega), turn_loop R C f V _ hR hC hV]
  simp only [Option.bind_some, bif_dec]
  rw [if_pos (by omega)]
  have hl : (turnL V R C).length = V.length := by unfold turnL; simp [hV]
  rw [List.drop_zero, List.take_of_length_le (by omega)]
  cases rightS ((R : Int), (C : Int), f, V, ()) <;> rfl
def prodH (A B : List Int) (C J k : Nat) : Int := dtf (fun x => gl A ((k / J) * C + x)) (fun x => gl B ((k % J) * C + x)) C
def prodL (A B : List Int) (C J n : Nat) : List Int := (List.range n).map (prodH A B C J)
theorem prodL_len (A B : List Int) (C J n : Nat) : (prodL A B C J n).length = n := by unfold prodL; simp
theorem prodL_wl (A B : List Int) (C J n : Nat) : wl (prodL A B C J n) := range_wl fun i => dtf_w _ _ _
theorem row_dot {A B : List Int} {R J C i j : Nat} (hA : A.length = R * C) (hB : B.length = J * C) (wA : wl A) (wB : wl B) (hi : i < R) (hj : j < J) (hR : R ≤ 4096) (hC : C ≤ 4096) (hJ : J ≤ 4096) :
    F_99e (rowL A C i) (rowL B C j) = some (prodH A B C J (i * J + j), 0, ()) := by
  have l1 := rowL_len hA hi
  have l2 := rowL_len hB hj
  rw [dot_eq _ _ (rowL_wl wA) (rowL_wl wB) (by omega), if_pos (by omega), l1]
  have d1 : (i * J + j) / J = i := by rw [Nat.mul_comm, Nat.mul_add_div (by omega), Nat.div_eq_of_lt hj]; omega
  have d2 : (i * J + j) % J = j := by rw [Nat.mul_comm, Nat.mul_add_mod, Nat.mod_eq_of_lt hj]
  unfold prodH
  rw [d1, d2]
  congr 2
  exact dtf_congr fun x hx => ⟨rowL_get hx, rowL_get hx⟩
theorem product_inner (R C J i : Nat) (f g : Int) (A B : List Int) (z : Int × Int × Int × Unit) (hR : R ≤ 4096) (hC : C ≤ 4096) (hJ : J ≤ 4096) (hA : A.length = R * C) (hB : B.length = J * C) (wA : wl A) (wB : wl B) (hi : i < R) :
    lim st_98e_1 (((i : Int), ((R : Int), ((i : Int), ((J : Int), ((0:Int), ()))))), (((R : Int), ((C : Int), (f, (A, ())))), (((J : Int), ((C : Int), (g, (B, ())))), (z, (((R : Int), ((J : Int), ((2 : Int), ((i * J), ())))), (prodL A B C J (i * J), ())))))) =
      some (((R : Int), ((i : Int), ())), (((R : Int), ((C : Int), (f, (A, ())))), (((J : Int), ((C : Int), (g, (B, ())))), (z, (((R : Int), ((J : Int), ((2 : Int), (((i + 1) * J), ())))), (prodL A B C J ((i + 1) * J), ())))))) := by
  have hb := rc_bd hR hJ
  have hrc : (i + 1) * J ≤ R * J := Nat.mul_le_mul_right _ hi
  have he : (i + 1) * J = i * J + J := by rw [Nat.add_mul, Nat.one_mul]
  have := lim_seq (st := st_98e_1) (fun j => (((i : Int), ((R : Int), ((i : Int), ((J : Int), ((j : Int), ()))))), (((R : Int), ((C : Int), (f, (A, ())))), (((J : Int), ((C : Int), (g, (B, ())))), (z, (((R : Int), ((J : Int), ((2 : Int), ((i * J + j), ())))), (prodL A B C J (i * J + j), ())))))))
    (b := (((R : Int), ((i : Int), ())), (((R : Int), ((C : Int), (f, (A, ())))), (((J : Int), ((C : Int), (g, (B, ())))), (z, (((R : Int), ((J : Int), ((2 : Int), ((i * J + J), ())))), (prodL A B C J (i * J + J), ()))))))) J
    (fun j hj R' kn ko => by
      unfold st_98e_1
      dsimp only
      simp only [List.take_length, bif_dec, line_eq f A R C i hR hC hA hi, line_eq g B J C j hJ hC hB hj, Option.bind_some, row_dot hA hB wA wB hi hj hR hC hJ]
      rw [if_pos (show (j : Int) < (J : Int) by omega), if_pos (show i * J + j + 1 ≤ 1073741824 by omega), wi64 (by omega), show ((j + 1 : Nat) : Int) = (j : Int) + 1 by omega]
      have hl := prodL_len A B C J (i * J + j)
      rw [List.take_of_length_le (by omega)]
      have : prodL A B C J (i * J + j) ++ [prodH A B C J (i * J + j)] = prodL A B C J (i * J + (j + 1)) := by
        unfold prodL; rw [← Nat.add_assoc, List.range_succ, List.map_append]; rfl
      rw [this]; rfl)
    (fun R' kn ko => by
      unfold st_98e_1
      dsimp only
      simp only [List.take_length, bif_dec]
      rw [if_neg (show ¬ (J : Int) < (J : Int) by omega)])
  rw [he]
  exact this
theorem product_eq (R C J D : Nat) (f g : Int) (A B : List Int) (hR : R ≤ 4096) (hC : C ≤ 4096) (hJ : J ≤ 4096) (hA : A.length = R * C) (hB : B.length = J * D) (wA : wl A) (wB : wl B) :
    F_98e ((R : Int), (C : Int), f, A, ()) ((J : Int), (D : Int), g, B, ()) = some (if C = D then (((R : Int), (J : Int), 2, prodL A B C J (R * J), ()), 0, ()) else (noT, 21, ())) := by
  unfold F_98e
  dsimp only
  simp only [List.take_length]
  rw [bif_ne]
  by_cases hCD : C = D
  · subst hCD
    rw [if_pos rfl, if_pos rfl]
    have := lim_seq (st := st_98e_0) (fun i => (((R : Int), ((i : Int), ())), (((R : Int), ((C : Int), (f, (A, ())))), (((J : Int), ((C : Int), (g, (B, ())))), (((0:Int), ((0:Int), ((0:Int), ()))), (((R : Int), ((J : Int), ((2 : Int), ((i * J), ())))), (prodL A B C J (i * J), ())))))))
      (b := ((), (((0:Int), ((0:Int), ((0:Int), ()))), (((R : Int), ((J : Int), ((2 : Int), ((R * J), ())))), (prodL A B C J (R * J), ()))))) R
      (fun i hi R' kn ko => by
        unfold st_98e_0
        dsimp only
        simp only [List.take_length, bif_dec]
        rw [if_pos (show (i : Int) < (R : Int) by omega), product_inner R C J i f g A B _ hR hC hJ hA hB wA wB hi]
        simp only [Option.bind_some, List.take_length]
        rw [wi64 (by omega), show ((i + 1 : Nat) : Int) = (i : Int) + 1 by omega])
      (fun R' kn ko => by
        unfold st_98e_0
        dsimp only
        simp only [bif_dec]
        rw [if_neg (show ¬ (R : Int) < (R : Int) by omega)])
    have e : lim st_98e_0 (((R : Int), ((0 : Int), ())), (((R : Int), ((C : Int), (f, (A, ())))), (((J : Int), ((C : Int), (g, (B, ())))), (((0:Int), ((0:Int), ((0:Int), ()))), (((R : Int), ((J : Int), ((2 : Int), ((0 : Nat), ())))), ([], ())))))) = some ((), (((0:Int), ((0:Int), ((0:Int), ()))), (((R : Int), ((J : Int), ((2 : Int), ((R * J), ())))), (prodL A B C J (R * J), ())))) := by
      have h0 : prodL A B C J (0 * J) = [] := by simp [prodL]
      simp only [Nat.zero_mul] at this h0
      rw [h0] at this
      exact this
    rw [e]
    simp only [Option.bind_some, List.drop_zero]
    rw [List.take_of_length_le (by rw [prodL_len]; exact Nat.le_refl _)]
  · rw [if_neg (by omega), if_neg hCD]
theorem nums_eq (X Y : List Int) (hn : X.length < 4611686018427387904) : F_913 X Y = some (decide (X = Y)) := by
  unfold F_913
  simp only [List.take_length]
  rw [bif_ne]
  by_cases h : X.length = Y.length
  · rw [if_pos (by omega)]
    have step : ∀ i, i < X.length → gl X i = gl Y i → ∀ R kn ko, st_913_0 R ((X, (Y, ((i : Int), ()))), ()) kn ko = kn ((X, (Y, (((i + 1 : Nat) : Int), ()))), ()) := by
      intro i hi he R kn ko
      unfold st_913_0
      dsimp only
      simp only [List.take_length, bif_dec, Int.toNat_natCast]
      rw [if_pos (by omega), if_pos (by omega), if_pos (by omega)]
      have : (X.getD i 0 != Y.getD i 0) = false := by simpa [gl] using he
      rw [this, wi64 (by omega), show ((i + 1 : Nat) : Int) = (i : Int) + 1 by omega]; rfl
    rcases first_or (fun i => gl X i != gl Y i) X.length with k | ⟨k, h1, h2, h3⟩
    · have := lim_seq (st := st_913_0) (fun i => ((X, (Y, ((i : Int), ()))), ())) (b := Sum.inl ((), ())) X.length
        (fun i hi R kn ko => step i hi (by simpa using k i hi) R kn ko)
        (fun R kn ko => by
          unfold st_913_0
          dsimp only
          simp only [bif_dec]
          rw [if_neg (by omega)])
      have e : lim st_913_0 ((X, (Y, ((0 : Int), ()))), ()) = _ := this
      rw [e]
      have he : X = Y := by
        apply List.ext_getElem h
        intro i h1 h2
        have := k i h1
        have q : gl X i = gl Y i := by simpa using this
        unfold gl at q
        rwa [gtd h1, gtd h2] at q
      rw [decide_eq_true he]; rfl
    · have := lim_seq (st := st_913_0) (fun i => ((X, (Y, ((i : Int), ()))), ())) (b := Sum.inr ((false, ()), ())) k
        (fun i hi R kn ko => step i (by omega) (by simpa using h2 i hi) R kn ko)
        (fun R kn ko => by
          unfold st_913_0
          dsimp only
          simp only [bif_dec, Int.toNat_natCast]
          rw [if_pos (by omega), if_pos (by omega), if_pos (by omega)]
          have : (X.getD k 0 != Y.getD k 0) = true := h3
          rw [this]; rfl)
      have e : lim st_913_0 ((X, (Y, ((0 : Int), ()))), ()) = _ := this
      rw [e]
      have he : X ≠ Y := by intro q; rw [q] at h3; simp at h3
      rw [decide_eq_false he]; rfl
  · rw [if_neg (by omega)]
    have : X ≠ Y := fun q => h (by rw [q])
    rw [decide_eq_false this]
theorem right_nat {a b f : Int} {l : List Int} (h : rightS (a, b, f, l, ()) = true) : ∃ R C : Nat, a = R ∧ b = C ∧ R ≤ 4096 ∧ C ≤ 4096 ∧ l.length = R * C ∧ knownS f = true ∧ l.all (fits f) = true := by
  unfold rightS at h
  simp only [Bool.and_eq_true, decide_eq_true_eq] at h
  obtain ⟨⟨h1, h2, h3, h4⟩, h5, h6, h7⟩ := h
  refine ⟨a.toNat, b.toNat, by omega, by omega, by omega, by omega, ?_, h5, h7⟩
  have e : ((l.length : Nat) : Int) = ((a.toNat * b.toNat : Nat) : Int) := by
    rw [h6]; push_cast; rw [Int.toNat_of_nonneg h1, Int.toNat_of_nonneg h3]
  exact_mod_cast e
theorem right_mk {R C : Nat} {f : Int} {l : List Int} (hR : R ≤ 4096) (hC : C ≤ 4096) (hl : l.length = R * C) (hf : knownS f = true) (ha : l.all (fits f) = true) : rightS ((R : Int), (C : Int), f, l, ()) = true := by
  unfold rightS
  simp only [Bool.and_eq_true, decide_eq_true_eq]
  refine ⟨⟨by omega, by omega, by omega, by omega⟩, hf, ?_, ha⟩
  rw [hl]; simp
theorem fits2 {l : List Int} (h : wl l) : l.all (fits 2) = true := by
  rw [List.all_eq_true]; intro a ha
  have := h a ha
  unfold fits; simp [TT]; omega
theorem wideL_len (t : TsT) : (wideL t).length = t.2.2.2.1.length := by unfold wideL; simp
theorem wideL_wl (t : TsT) : wl (wideL t) := range_wl fun i => widen_w _ _
theorem turnL_len (V : List Int) (R C : Nat) : (turnL V R C).length = R * C := by unfold turnL; simp
theorem turnL_wl {V : List Int} (h : wl V) (R C : Nat) : wl (turnL V R C) := by
  intro a ha; unfold turnL at ha
  obtain ⟨i, _, rfl⟩ := List.mem_map.1 ha; exact wl_get h _
theorem both_eq (a b : TsT) (hA : wl a.2.2.2.1) (hB : wl b.2.2.2.1) (nA : a.2.2.2.1.length ≤ 1073741824) (nB : b.2.2.2.1.length ≤ 1073741824) :
    F_980 a b = some ((if rightS a then (a.1, a.2.1, 2, wideL a, ()) else noT), (if rightS b then (b.1, b.2.1, 2, wideL b, ()) else noT), rightS a && rightS b, ()) := by
  obtain ⟨a1, a2, a3, a4, ⟨⟩⟩ := a
  obtain ⟨b1, b2, b3, b4, ⟨⟩⟩ := b
  simp only at hA hB nA nB
  unfold F_980
  dsimp only
  simp only [List.take_length]
  rw [wide_eq (a1, a2, a3, a4, ()) hA nA, wide_eq (b1, b2, b3, b4, ()) hB nB]
  simp only [Option.bind_some]
  cases rightS (a1, a2, a3, a4, ()) <;> cases rightS (b1, b2, b3, b4, ()) <;> simp [bif_eq]
theorem turned_eq (R C : Nat) (f : Int) (V : List Int) (p : Bool) (hR : R ≤ 4096) (hC : C ≤ 4096) (hV : V.length = R * C) (hw : wl V) (hr : rightS ((R : Int), (C : Int), f, V, ()) = true) :
    F_98f ((R : Int), (C : Int), f, V, ()) p = some (if p then ((C : Int), (R : Int), f, turnL V R C, ()) else ((R : Int), (C : Int), f, V, ())) := by
  unfold F_98f
  dsimp only
  simp only [List.take_length]
  rw [turn_eq13 R C f V hR hC hV hw, hr]
  cases p <;> simp
theorem times_ok (R C J D : Nat) (f g : Int) (A B : List Int) (p q : Bool) (hA : wl A) (hB : wl B) (rA : rightS ((R : Int), (C : Int), f, A, ()) = true) (rB : rightS ((J : Int), (D : Int), g, B, ()) = true) :
    F_95d ((R : Int), (C : Int), f, A, ()) ((J : Int), (D : Int), g, B, ()) p q =
      some (if (if p then R else C) = (if q then J else D) then
        ((((if p then C else R : Nat) : Int), ((if q then D else J : Nat) : Int), 2, prodL (if p then turnL (wideL ((R : Int), (C : Int), f, A, ())) R C else wideL ((R : Int), (C : Int), f, A, ())) (if q then turnL (wideL ((J : Int), (D : Int), g, B, ())) J D else wideL ((J : Int), (D : Int), g, B, ())) (if p then R else C) (if q then D else J) ((if p then C else R) * (if q then D else J)), ()), 0, ()) else (noT, 21, ())) := by
  obtain ⟨R', C', e1, e2, hR, hC, lA, _, _⟩ := right_nat rA
  obtain ⟨J', D', e3, e4, hJ, hD, lB, _, _⟩ := right_nat rB
  obtain rfl : R = R' := by omega
  obtain rfl : C = C' := by omega
  obtain rfl : J = J' := by omega
  obtain rfl : D = D' := by omega
  have b1 := rc_bd hR hC
  have b2 := rc_bd hJ hD
  have hb := both_eq ((R : Int), (C : Int), f, A, ()) ((J : Int), (D : Int), g, B, ()) hA hB (by simp only; omega) (by simp only; omega)
  unfold F_95d
  dsimp only
  simp only [List.take_length]
  rw [hb, rA, rB]
  have lWA := wideL_len ((R : Int), (C : Int), f, A, ())
  have lWB := wideL_len ((J : Int), (D : Int), g, B, ())
  have wWA := wideL_wl ((R : Int), (C : Int), f, A, ())
  have wWB := wideL_wl ((J : Int), (D : Int), g, B, ())
  simp only at lWA lWB
  generalize wideL ((R : Int), (C : Int), f, A, ()) = X at *
  generalize wideL ((J : Int), (D : Int), g, B, ()) = Y at *
  have rX := right_mk (f := 2) hR hC (show X.length = R * C by omega) (by decide) (fits2 wWA)
  have rY := right_mk (f := 2) hJ hD (show Y.length = J * D by omega) (by decide) (fits2 wWB)
  simp only [Option.bind_some, Bool.and_self, Bool.not_true, cond_false, if_true]
  rw [turned_eq R C 2 X p hR hC (by omega) wWA rX, turned_eq J D 2 Y q hJ hD (by omega) wWB rY]
  have tX := turnL_len X R C
  have tY := turnL_len Y J D
  have uX := turnL_wl wWA R C
  have uY := turnL_wl wWB J D
  have c1 : C * R = R * C := Nat.mul_comm _ _
  have c2 : D * J = J * D := Nat.mul_comm _ _
  cases p <;> cases q <;> simp only [Option.bind_some, if_true, if_false, Bool.false_eq_true, List.take_length]
  · rw [product_eq R C J D 2 2 X Y hR hC hJ (by omega) (by omega) wWA wWB]
    simp only [Option.bind_some, List.take_length]
  · rw [product_eq R C D J 2 2 X (turnL Y J D) hR hC hD (by omega) (by omega) wWA uY]
    simp only [Option.bind_some, List.take_length]
  · rw [product_eq C R J D 2 2 (turnL X R C) Y hC hR hJ (by omega) (by omega) uX wWB]
    simp only [Option.bind_some, List.take_length]
  · rw [product_eq C R D J 2 2 (turnL X R C) (turnL Y J D) hC hR hD (by omega) (by omega) uX uY]
    simp only [Option.bind_some, List.take_length]
theorem rows_un (a b : TsT) : F_94e a b = F_95d a b false false := by
  unfold F_94e; dsimp only; simp only [List.take_length]
  rw [show (a.1, a.2.1, a.2.2.1, a.2.2.2.1, ()) = a from rfl, show (b.1, b.2.1, b.2.2.1, b.2.2.2.1, ()) = b from rfl]
  cases F_95d a b false false <;> rfl
end Go.Proofs.YtkmkhcmfpbffjaaGreat.VI
