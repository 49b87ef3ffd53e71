import Derived.Test.YtkknnloamidaiaaGreatTac2f204a
namespace Go.Proofs.YtkknnloamidaiaaGreat.VI
set_option linter.unusedVariables false
set_option linter.unusedSimpArgs false
set_option linter.unusedSimpArgs false
set_option linter.unusedVariables false
set_option maxRecDepth 100000
set_option maxHeartbeats 4000000
abbrev TsT : Type := Int × Int × Int × List Int × Unit
abbrev wl (l : List Int) : Prop := ∀ a ∈ l, w32 a
theorem wl_ok {l : List Int} (h : ∀ a ∈ l, inR .u32 a) : wl l := fun a ha => ⟨(h a ha).1, Int.lt_add_one_of_le (h a ha).2⟩
theorem wl_get {l : List Int} (h : wl l) (i : Nat) : w32 (l.getD i 0) := by
  rw [List.getD_eq_getElem?_getD]
  cases e : l[i]? with
  | none => exact ⟨by decide, by decide⟩
  | some a => exact h a (List.mem_of_getElem? e)
def knownS (f : Int) : Bool := decide (f = 0 ∨ f = 1 ∨ f = 2)
def fits (f v : Int) : Bool := decide (v < 2 * TT f)
def rightS (t : TsT) : Bool := decide (0 ≤ t.1 ∧ t.1 ≤ 4096 ∧ 0 ≤ t.2.1 ∧ t.2.1 ≤ 4096) && (knownS t.2.2.1 && (decide ((t.2.2.2.1.length : Int) = t.1 * t.2.1) && t.2.2.2.1.all (fits t.2.2.1)))
theorem known_t (f : Int) : F_tensor_known f = some (knownS f) := by
  unfold F_tensor_known knownS
  rw [bif_eq, bif_eq]
  by_cases h0 : f = 0
  · simp [h0]
  · by_cases h1 : f = 1
    · simp [h1]
    · simp only [if_neg h0, if_neg h1]
      congr 1; rw [Bool.eq_iff_iff]; simp [h0, h1]
theorem known_r (f : Int) : F_annealref13_known f = some (knownS f) := known_t f
theorem nat_hi (y : Nat) (h : y < 2 ^ 32) : y &&& (4294967295 - 65535) = 0 ↔ y < 65536 := by
  constructor
  · intro k
    have e : (y &&& (4294967295 - 65535)) >>> 16 = (y >>> 16) &&& 65535 := by rw [Nat.shiftRight_and_distrib]; rfl
    rw [k] at e
    have e2 : (y >>> 16) &&& 65535 = (y >>> 16) % 65536 := Nat.and_two_pow_sub_one_eq_mod _ 16
    rw [e2, Nat.shiftRight_eq_div_pow] at e
    simp at e
    omega
  · intro k
    apply Nat.eq_of_testBit_eq
    intro i
    rw [Nat.testBit_and, Nat.zero_testBit]
    by_cases hi : i < 16
    · have : Nat.testBit (4294967295 - 65535) i = false := by
        rw [show 4294967295 - 65535 = 2 ^ 16 * 65535 by rfl, Nat.testBit_two_pow_mul]; simp; omega
      rw [this, Bool.and_false]
    · have : y.testBit i = false := Nat.testBit_lt_two_pow (Nat.lt_of_lt_of_le (show y < 2 ^ 16 from k) (Nat.pow_le_pow_right (by omega) (by omega)))
      rw [this, Bool.false_and]
theorem andNot_fits (f : Int) {v : Int} (h : w32 v) : (bits .andNot .u32 v (2 * TT f - 1) != 0) = !(fits f v) := by
  unfold fits
  rcases TT_cs f with e | e <;> rw [e]
  · rw [show (2 * 32768 - 1 : Int) = 65535 from rfl, u32_andNot _ _ h.1 h.2 (by omega) (by omega)]
    have := nat_hi v.toNat (by omega)
    rw [show (65535 : Int).toNat = 65535 from rfl, Bool.eq_iff_iff]
    simp only [bne_iff_ne, Bool.not_eq_true', decide_eq_false_iff_not]
    have h2 : ((v.toNat &&& (4294967295 - 65535) : Nat) : Int) ≠ 0 ↔ ¬ (v.toNat &&& (4294967295 - 65535)) = 0 := by omega
    rw [h2, this]; omega
  · rw [show (2 * 2147483648 - 1 : Int) = 4294967295 from rfl, u32_andNot _ _ h.1 h.2 (by omega) (by omega)]
    rw [show (4294967295 : Int).toNat = 4294967295 from rfl, Nat.sub_self, Nat.and_zero]
    have : decide (v < 2 * 2147483648) = true := by simp; omega
    rw [this]; rfl
theorem first_or (p : Nat → Bool) (n : Nat) : (∀ i, i < n → p i = false) ∨ ∃ k, k < n ∧ (∀ i, i < k → p i = false) ∧ p k = true := by
  induction n with
  | zero => left; intro i h; omega
  | succ n ih =>
    rcases ih with h | ⟨k, h1, h2, h3⟩
    · cases hp : p n with
      | false => left; intro i hi; by_cases e : i = n
                 · rw [e]; exact hp
                 · exact h i (by omega)
      | true => right; exact ⟨n, by omega, h, hp⟩
    · right; exact ⟨k, by omega, h2, h3⟩
theorem all_get {l : List Int} {p : Int → Bool} : l.all p = true ↔ ∀ i, i < l.length → p (l.getD i 0) = true := by
  rw [List.all_eq_true]
  constructor
  · intro h i hi; rw [gtd hi]; exact h _ (List.getElem_mem hi)
  · intro h a ha
    obtain ⟨i, hi, rfl⟩ := List.getElem_of_mem ha
    have := h i hi; rwa [gtd hi] at this
theorem index_eq (l : List Int) (b : TsT) (hl : wl l) (hn : l.length < 4611686018427387904) :
    ∃ r, F_slices_IndexFuncLLJuint32_uint32J__tensor_Rightc1 l b = some (r, (b, ())) ∧ (r ≥ 0 ↔ ¬ l.all (fits b.2.2.1) = true) := by
  obtain ⟨b1, b2, b3, b4, ⟨⟩⟩ := b
  unfold F_slices_IndexFuncLLJuint32_uint32J__tensor_Rightc1
  dsimp only
  simp only [List.take_length]
  have step : ∀ i, i < l.length → fits b3 (l.getD i 0) = true → ∀ R kn ko, st_slices_IndexFuncLLJuint32_uint32J__tensor_Rightc1_0 R ((l, ((l.length : Int), ((i : Int), ()))), ((b1, (b2, (b3, (b4, ())))), ())) kn ko = kn ((l, ((l.length : Int), (((i + 1 : Nat) : Int), ()))), ((b1, (b2, (b3, (b4, ())))), ())) := by
    intro i hi hf R kn ko
    unfold st_slices_IndexFuncLLJuint32_uint32J__tensor_Rightc1_0 F_tensor_Rightc1
    dsimp only
    simp only [List.take_length, bif_dec]
    rw [if_pos (by omega), if_pos (by omega), Int.toNat_natCast, mask_eq]
    simp only [Option.bind_some]
    rw [andNot_fits b3 (wl_get hl i), hf, wi64 (by omega), show ((i + 1 : Nat) : Int) = (i : Int) + 1 by omega]; rfl
  rcases first_or (fun i => !(fits b3 (l.getD i 0))) l.length with h | ⟨k, h1, h2, h3⟩
  · have := lim_seq (st := st_slices_IndexFuncLLJuint32_uint32J__tensor_Rightc1_0) (fun i => ((l, ((l.length : Int), ((i : Int), ()))), ((b1, (b2, (b3, (b4, ())))), ()))) (b := Sum.inl ((), ((b1, (b2, (b3, (b4, ())))), ()))) l.length
      (fun i hi R kn ko => step i hi (by simpa using h i hi) R kn ko)
      (fun R kn ko => by
        unfold st_slices_IndexFuncLLJuint32_uint32J__tensor_Rightc1_0
        dsimp only
        simp only [List.take_length, bif_dec]
        rw [if_neg (by omega)])
    have e : lim st_slices_IndexFuncLLJuint32_uint32J__tensor_Rightc1_0 ((l, ((l.length : Int), ((0 : Int), ()))), ((b1, (b2, (b3, (b4, ())))), ())) = _ := this
    rw [e]
    refine ⟨-1, by simp only [Option.bind_some, els, List.take_length], ?_⟩
    have ha : l.all (fits b3) = true := all_get.2 fun i hi => by simpa using h i hi
    simp [ha]
  · have := lim_seq (st := st_slices_IndexFuncLLJuint32_uint32J__tensor_Rightc1_0) (fun i => ((l, ((l.length : Int), ((i : Int), ()))), ((b1, (b2, (b3, (b4, ())))), ()))) (b := Sum.inr (((k : Int), ()), ((b1, (b2, (b3, (b4, ())))), ()))) k
      (fun i hi R kn ko => step i (by omega) (by simpa using h2 i hi) R kn ko)
      (fun R kn ko => by
        unfold st_slices_IndexFuncLLJuint32_uint32J__tensor_Rightc1_0 F_tensor_Rightc1
        dsimp only
        simp only [List.take_length, bif_dec]
        rw [if_pos (by omega), if_pos (by omega), Int.toNat_natCast, mask_eq]
        simp only [Option.bind_some]
        rw [andNot_fits b3 (wl_get hl k), h3]; rfl)
    have e : lim st_slices_IndexFuncLLJuint32_uint32J__tensor_Rightc1_0 ((l, ((l.length : Int), ((0 : Int), ()))), ((b1, (b2, (b3, (b4, ())))), ())) = _ := this
    rw [e]
    refine ⟨(k : Int), by simp only [Option.bind_some, els, List.take_length], ?_⟩
    have ha : ¬ l.all (fits b3) = true := fun h => by
      have q := all_get.1 h k h1; rw [q] at h3; cases h3
    exact ⟨fun _ => ha, fun _ => by omega⟩
theorem right_eq (t : TsT) (hl : wl t.2.2.2.1) (hn : t.2.2.2.1.length < 4611686018427387904) : F_tensor_Right t = some (rightS t) := by
  obtain ⟨a, b, f, l, ⟨⟩⟩ := t
  simp only at hl hn
  obtain ⟨r, hr, hr2⟩ := index_eq l (a, b, f, l, ()) hl hn
  unfold F_tensor_Right rightS F_slices_ContainsFuncLLJuint32_uint32J__tensor_Rightc1
  dsimp only
  simp only [List.take_length, bif_dec, known_t, Option.bind_some, hr, bif_ne]
  by_cases h1 : 0 ≤ a ∧ a ≤ 4096 ∧ 0 ≤ b ∧ b ≤ 4096
  · rw [if_neg (by omega), if_neg (by omega), if_neg (by omega), if_neg (by omega), decide_eq_true h1]
    have hm : IntKind.i64.wrap (a * b) = a * b := by
      have : 0 ≤ a * b := Int.mul_nonneg h1.1 h1.2.2.1
      have : a * b ≤ 4096 * 4096 := Int.mul_le_mul h1.2.1 h1.2.2.2 h1.2.2.1 (by omega)
      exact wi64 (by omega)
    rw [hm]
    cases knownS f
    · rfl
    · by_cases h2 : (l.length : Int) = a * b
      · rw [if_pos h2, decide_eq_true h2]
        simp only [Bool.not_true, cond_false, Bool.true_and]
        congr 1
        have hb : decide (r ≥ 0) = !(l.all (fits f)) := by
          rw [Bool.eq_iff_iff, decide_eq_true_eq, hr2]; simp
        rw [hb]; simp
      · rw [if_neg h2, decide_eq_false h2]; rfl
  · rw [decide_eq_false h1]
    by_cases k1 : a < 0
    · rw [if_pos k1]; rfl
    rw [if_neg k1]
    by_cases k2 : a > 4096
    · rw [if_pos k2]; rfl
    rw [if_neg k2]
    by_cases k3 : b < 0
    · rw [if_pos k3]; rfl
    rw [if_neg k3, if_pos (by omega)]; rfl
theorem rightr_eq (t : TsT) (hl : wl t.2.2.2.1) (hn : t.2.2.2.1.length < 4611686018427387904) : F_annealref13_Right t = some (rightS t) := by
  obtain ⟨a, b, f, l, ⟨⟩⟩ := t
  simp only at hl hn
  have step : ∀ i, i < l.length → fits f (l.getD i 0) = true → ∀ R kn ko, st_annealref13_Right_0 R (((i : Int), ()), ((a, (b, (f, (l, ())))), ())) kn ko = kn ((((i + 1 : Nat) : Int), ()), ((a, (b, (f, (l, ())))), ())) := by
    intro i hi hf R kn ko
    unfold st_annealref13_Right_0
    dsimp only
    simp only [List.take_length, bif_dec]
    rw [if_pos (by omega), if_pos (by omega), Int.toNat_natCast, maskr_eq]
    simp only [Option.bind_some]
    rw [andNot_fits f (wl_get hl i), hf, wi64 (by omega), show ((i + 1 : Nat) : Int) = (i : Int) + 1 by omega]; rfl
  have hlim : ((lim st_annealref13_Right_0 (((0:Int), ()), ((a, (b, (f, (l, ())))), ()))).bind fun r4 => els (fun l5 => (some true)) (fun r6 => (some r6.1.1)) r4) = some (l.all (fits f)) := by
    rcases first_or (fun i => !(fits f (l.getD i 0))) l.length with h | ⟨k, h1, h2, h3⟩
    · have := lim_seq (st := st_annealref13_Right_0) (fun i => (((i : Int), ()), ((a, (b, (f, (l, ())))), ()))) (b := Sum.inl ((), ())) l.length
        (fun i hi R kn ko => step i hi (by simpa using h i hi) R kn ko)
        (fun R kn ko => by
          unfold st_annealref13_Right_0
          dsimp only
          simp only [bif_dec]
          rw [if_neg (by omega)])
      have e : lim st_annealref13_Right_0 (((0:Int), ()), ((a, (b, (f, (l, ())))), ())) = _ := this
      rw [e]
      have ha : l.all (fits f) = true := all_get.2 fun i hi => by simpa using h i hi
      rw [ha]; rfl
    · have := lim_seq (st := st_annealref13_Right_0) (fun i => (((i : Int), ()), ((a, (b, (f, (l, ())))), ()))) (b := Sum.inr ((false, ()), ())) k
        (fun i hi R kn ko => step i (by omega) (by simpa using h2 i hi) R kn ko)
        (fun R kn ko => by
          unfold st_annealref13_Right_0
          dsimp only
          simp only [bif_dec]
          rw [if_pos (by omega), if_pos (by omega), Int.toNat_natCast, maskr_eq]
          simp only [Option.bind_some]
          rw [andNot_fits f (wl_get hl k), h3]; rfl)
      have e : lim st_annealref13_Right_0 (((0:Int), ()), ((a, (b, (f, (l, ())))), ())) = _ := this
      rw [e]
      have ha : l.all (fits f) = false := by
        apply Bool.eq_false_iff.2; intro h
        have q := all_get.1 h k h1; rw [q] at h3; cases h3
      rw [ha]; rfl
  unfold F_annealref13_Right rightS
  dsimp only
  simp only [List.take_length, bif_dec, known_r, Option.bind_some, hlim, bif_ne]
  by_cases h1 : 0 ≤ a ∧ a ≤ 4096 ∧ 0 ≤ b ∧ b ≤ 4096
  · rw [if_neg (by omega), if_neg (by omega), if_neg (by omega), if_neg (by omega), decide_eq_true h1]
    have hm : IntKind.i64.wrap (a * b) = a * b := by
      have : 0 ≤ a * b := Int.mul_nonneg h1.1 h1.2.2.1
      have : a * b ≤ 4096 * 4096 := Int.mul_le_mul h1.2.1 h1.2.2.2 h1.2.2.1 (by omega)
      exact wi64 (by omega)
    rw [hm]
    cases knownS f
    · rfl
    · by_cases h2 : (l.length : Int) = a * b
      · rw [if_pos h2, decide_eq_true h2]; rfl
      · rw [if_neg h2, decide_eq_false h2]; rfl
  · rw [decide_eq_false h1]
    by_cases k1 : a < 0
    · rw [if_pos k1]; rfl
    rw [if_neg k1]
    by_cases k2 : a > 4096
    · rw [if_pos k2]; rfl
    rw [if_neg k2]
    by_cases k3 : b < 0
    · rw [if_pos k3]; rfl
    rw [if_neg k3, if_pos (by omega)]; rfl
end Go.Proofs.YtkknnloamidaiaaGreat.VI

namespace Go.Proofs.YtkknnloamidaiaaGreat.VI
set_option linter.unusedVariables false
set_option linter.unusedSimpArgs false
set_option linter.unusedSimpArgs false
set_option linter.unusedVariables false
set_option maxRecDepth 100000
set_option maxHeartbeats 4000000
abbrev wf (f a : Int) : Prop := 0 ≤ a ∧ a < 2 * TT f
theorem wf_w {f a : Int} (h : wf f a) : w32 a := ⟨h.1, by have := TT_cs f; omega⟩
theorem sgn_wf (f : Int) (n : Bool) {x : Int} (h : 0 ≤ x ∧ x < TT f) : wf f (sgn f n + x) := by
  have := sgn_bd f n
  have := TT_cs f
  exact ⟨by omega, by omega⟩
theorem over_wf (f mode : Int) (n : Bool) : wf f (overS f mode n) := by
  have ib := IN_bd f
  have fb := fmt_bd f
  unfold overS
  split
  · exact sgn_wf f n (by omega)
  · exact sgn_wf f n (by omega)
theorem fin2_wf (f mode : Int) (n : Bool) (u q : Int) (h r s : Bool) (hq : 0 ≤ q) (hq2 : q ≤ 2 * BB f) (hu : le f - MM f ≤ u) : wf f (fin2 f mode n u q h r s).1 := by
  have fb := fmt_bd f
  have ib := IN_bd f
  unfold fin2
  have hq3 : 0 ≤ (if q / (2 * BB f) = 0 then q else q / 2) := by split <;> omega
  generalize (if q / (2 * BB f) = 0 then q else q / 2) = q2 at *
  have hu2 : le f - MM f ≤ (if q / (2 * BB f) = 0 then u else u + 1) := by split <;> omega
  generalize (if q / (2 * BB f) = 0 then u else u + 1) = u2 at *
  have ha : 0 ≤ (if q2 / BB f = 0 then 0 else u2 + MM f - le f + 1) := by split <;> omega
  generalize (if q2 / BB f = 0 then 0 else u2 + MM f - le f + 1) = a at *
  have hm : 0 ≤ q2 % BB f ∧ q2 % BB f < BB f := by rcases fb.2.1 with h | h | h <;> rw [h] <;> omega
  by_cases o : a ≥ RR f - 1
  · rw [if_pos o]; exact over_wf f mode n
  · rw [if_neg o]
    show wf f (sgn f n + a * BB f + q2 % BB f)
    rw [Int.add_assoc]
    apply sgn_wf
    have h1 : (a + 1) * BB f ≤ RR f * BB f := Int.mul_le_mul_of_nonneg_right (by omega) (by omega)
    rw [Int.add_mul, ← TT_RB] at h1
    have h2 : 0 ≤ a * BB f := Int.mul_nonneg ha (by omega)
    omega
theorem pk_wf (f mode : Int) (n : Bool) (e N : Int) (m : Bool) (hN : 0 ≤ N) : wf f (pk f mode n e N m).1 := by
  have fb := fmt_bd f
  have hq := q_bd f e N hN
  unfold pk
  split
  · have := sgn_wf f n (x := 0) (by omega); simpa using this
  · refine fin2_wf f mode n _ _ _ _ _ ?_ ?_ ?_
    · unfold fin1; split <;> omega
    · unfold fin1; split <;> omega
    · unfold unitS; split <;> omega
theorem tot_wf (f mode T : Int) : wf f (totS f mode T).1 := by
  have fb := fmt_bd f
  unfold totS
  split
  · have := sgn_wf f (decide (mode = 3)) (x := 0) (by omega); simpa using this
  · exact pk_wf _ _ _ _ _ _ (by split <;> omega)
theorem NN_wf (f : Int) : wf f (NN f) := by
  have ib := IN_bd f
  have fb := fmt_bd f
  unfold NN; exact ⟨by omega, by omega⟩
theorem infs_wf (f : Int) (n : Bool) : wf f (sgn f n + IN f) := by
  have ib := IN_bd f
  have fb := fmt_bd f
  exact sgn_wf f n (by omega)
theorem sum_wf (f mode : Int) (n : Bool) (e N : Int) (m : Bool) (d M : Int) : wf f (sumS f mode n e N m d M).1 := by
  have fb := fmt_bd f
  unfold sumS
  split
  · have := sgn_wf f n (x := 0) (by omega); simpa using this
  · exact tot_wf _ _ _
theorem fma_wf (f mode a b c : Int) : wf f (fmaS f mode a b c).1 := by
  unfold fmaS
  split
  · exact NN_wf f
  · split
    · split
      · exact NN_wf f
      · exact infs_wf f _
    · split
      · exact infs_wf f _
      · exact sum_wf _ _ _ _ _ _ _ _
theorem mul_wf (f mode a b : Int) : wf f (mulS f mode a b).1 := by
  unfold mulS
  split
  · exact NN_wf f
  · split
    · exact NN_wf f
    · split
      · exact infs_wf f _
      · exact pk_wf _ _ _ _ _ _ (sig_mul f a b).1.1
def fma (a b c : Int) : Int := (fmaS 2 0 a b c).1
theorem fma_w (a b c : Int) : w32 (fma a b c) := wf_w (fma_wf 2 0 a b c)
theorem ffma_eq {a b c : Int} (ha : w32 a) (hb : w32 b) (hc : w32 c) : F_funcs_Fma a b c = some (fma a b c) := by
  unfold F_funcs_Fma; rw [fma_eq 2 0 ha hb hc]; rfl
def toS (f g mode a : Int) : Int × ExcT × Unit :=
  if nan f a then (NN g, (loud f a, false, false, false, false, ()), ())
  else if inff f a then (sgn g (sg f a) + IN g, EXC0, ())
  else pk g mode (sg f a) (xp f a) (sig f a) false
theorem sig_w64 (f a : Int) : w64 (sig f a) := by
  have A := sig_bd f a
  have fb := fmt_bd f
  exact ⟨A.1, by omega⟩
theorem to_eq (f g mode : Int) {a : Int} (ha : w32 a) : F_conv_To f g mode a = some (toS f g mode a) := by
  have xa := xp_bd f a
  have k1 := kl_nan f a
  have k3 := kl_inf f a
  have kb := kl_le f a
  unfold F_conv_To F_sum_Bad toS
  rw [class_eq f ha.1 ha.2, nan_w, neg_eq f ha, of_eq f ha]
  simp only [Option.bind_some, bif_eq, inf_eq]
  rw [pack_eq g mode _ _ (sig_w64 f a), show min (max (xp f a) (-10000)) 10000 = xp f a by omega]
  simp only [Option.bind_some]
  by_cases h4 : kl f a = 4
  · have hn : nan f a = true := by unfold nan; simp; exact k1.1 (by omega)
    have hl : loud f a = false := by unfold loud; simp; omega
    rw [if_pos h4, hn, hl]; rfl
  rw [if_neg h4]
  by_cases h5 : kl f a = 5
  · have hn : nan f a = true := by unfold nan; simp; exact k1.1 (by omega)
    have hl : loud f a = true := by unfold loud; simp; omega
    rw [if_pos h5, hn, hl]; rfl
  rw [if_neg h5]
  have hn : nan f a = false := by
    unfold nan; apply decide_eq_false; intro k; have := k1.2 k; omega
  rw [hn]
  by_cases h3 : kl f a = 3
  · have hi : inff f a = true := by unfold inff; simp; exact k3.1 h3
    rw [if_pos h3, hi]; rfl
  · have hi : inff f a = false := by unfold inff; apply decide_eq_false; intro k; exact h3 (k3.2 k)
    rw [if_neg h3, hi]; rfl
def widen (f a : Int) : Int := (toS f 2 0 a).1
theorem to_wf (f g mode a : Int) : wf g (toS f g mode a).1 := by
  unfold toS
  split
  · exact NN_wf g
  · split
    · exact infs_wf g _
    · exact pk_wf _ _ _ _ _ _ (sig_bd f a).1
theorem widen_w (f a : Int) : w32 (widen f a) := wf_w (to_wf f 2 0 a)
theorem widen_eq (f : Int) {a : Int} (ha : w32 a) : F_conv_Widen f a = some (widen f a) := by
  unfold F_conv_Widen; rw [to_eq f 2 0 ha]; rfl
def addS (f mode a b : Int) : Int × ExcT × Unit :=
  if nan f a || nan f b then (NN f, (loud f a || loud f b, false, false, false, false, ()), ())
  else if inff f a && (inff f b && !(sg f a == sg f b)) then (NN f, (true, false, false, false, false, ()), ())
  else if inff f a then (sgn f (sg f a) + IN f, EXC0, ())
  else if inff f b then (sgn f (sg f b) + IN f, EXC0, ())
  else sumS f mode (sg f a) (xp f a) (sig f a) (sg f b) (xp f b) (sig f b)
theorem add_eq (f mode : Int) {a b : Int} (ha : w32 a) (hb : w32 b) : F_sum_Add f mode a b = some (addS f mode a b) := by
  have xa := xp_bd f a
  have xb := xp_bd f b
  have hs := psum_eq f mode (sg f a) (sg f b) (N := sig f a) (M := sig f b) (sig_48 f a) (sig_48 f b) (show -298 ≤ xp f a ∧ xp f a ≤ 300 by omega) (show -298 ≤ xp f b ∧ xp f b ≤ 300 by omega)
  unfold F_sum_Add F_sum_Infinite F_sum_Bad addS
  rw [snans_eq f [a, b] (by simp) (by simpa using ⟨ha, hb⟩), neg_eq f ha, neg_eq f hb, isinf_eq f ha, isinf_eq f hb, of_eq f ha, of_eq f hb, nan_w]
  simp only [Option.bind_some, List.any_cons, List.any_nil, Bool.or_false, inf_eq]
  rw [hs]
  generalize sumS f mode (sg f a) (xp f a) (sig f a) (sg f b) (xp f b) (sig f b) = W
  rcases cls f a with ⟨a1, a3, a4⟩ | ⟨a1, a2, a3, a4⟩ | ⟨a1, a2, a3, a4⟩ | ⟨a1, a2, a3, a4⟩ <;> rcases cls f b with ⟨b1, b3, b4⟩ | ⟨b1, b2, b3, b4⟩ | ⟨b1, b2, b3, b4⟩ | ⟨b1, b2, b3, b4⟩ <;> simp only [a1, a3, a4, b1, b3, b4] <;> first | rfl | (cases sg f a <;> cases sg f b <;> rfl)
theorem add_wf (f mode a b : Int) : wf f (addS f mode a b).1 := by
  unfold addS
  split
  · exact NN_wf f
  · split
    · exact NN_wf f
    · split
      · exact infs_wf f _
      · split
        · exact infs_wf f _
        · exact sum_wf _ _ _ _ _ _ _ _
def addf (a b : Int) : Int := (addS 2 0 a b).1
theorem addf_w (a b : Int) : w32 (addf a b) := wf_w (add_wf 2 0 a b)
theorem fadd_eq {a b : Int} (ha : w32 a) (hb : w32 b) : F_funcs_Add a b = some (addf a b) := by
  unfold F_funcs_Add; rw [add_eq 2 0 ha hb]; rfl
end Go.Proofs.YtkknnloamidaiaaGreat.VI

namespace Go.Proofs.YtkknnloamidaiaaGreat.VI
set_option linter.unusedVariables false
set_option linter.unusedSimpArgs false
set_option linter.unusedSimpArgs false
set_option linter.unusedVariables false
set_option maxRecDepth 100000
set_option maxHeartbeats 4000000
def lay1 (h : Nat → Int) (n i : Nat) : List Int := (List.range i).map h ++ List.replicate (n - i) 0
theorem lay1_len (h : Nat → Int) {n i : Nat} (hi : i ≤ n) : (lay1 h n i).length = n := by unfold lay1; simp; omega
theorem lay1_set (h : Nat → Int) {n i : Nat} (hi : i < n) : (lay1 h n i).set i (h i) = lay1 h n (i + 1) := by
  unfold lay1
  rw [List.set_append, if_neg (by simp), List.range_succ, List.map_append, List.append_assoc]
  congr 1
  rw [List.length_map, List.length_range, Nat.sub_self, show n - i = (n - (i + 1)) + 1 by omega, List.replicate_succ]
  rfl
theorem lay1_zero (h : Nat → Int) (n : Nat) : lay1 h n 0 = List.replicate n 0 := by unfold lay1; simp
theorem lay1_all (h : Nat → Int) (n : Nat) : lay1 h n n = (List.range n).map h := by unfold lay1; simp
theorem range_wl {h : Nat → Int} {n : Nat} (w : ∀ i, w32 (h i)) : wl ((List.range n).map h) := by
  intro a ha; obtain ⟨i, _, rfl⟩ := List.mem_map.1 ha; exact w i
theorem eachW_eq (t b : TsT) (g : Int) (hl : wl t.2.2.2.1) (hn : t.2.2.2.1.length ≤ 1073741824) :
    F_tensor_Each__kern_Widec1 t g b = some ((t.1, t.2.1, g, (List.range t.2.2.2.1.length).map (fun i => widen b.2.2.1 (t.2.2.2.1.getD i 0)), ()), (b, ())) := by
  obtain ⟨r, c, f, l, ⟨⟩⟩ := t
  obtain ⟨b1, b2, b3, b4, ⟨⟩⟩ := b
  simp only at hl hn ⊢
  have := lim_seq (st := st_tensor_Each__kern_Widec1_0) (fun i => ((l, ((l.length : Int), ((i : Int), ()))), ((b1, (b2, (b3, (b4, ())))), (((0:Int), ((0:Int), ((0:Int), ()))), ((r, (c, (g, (l.length, ())))), (lay1 (fun i => widen b3 (l.getD i 0)) l.length i, ()))))))
    (b := ((), ((b1, (b2, (b3, (b4, ())))), (((0:Int), ((0:Int), ((0:Int), ()))), ((r, (c, (g, (l.length, ())))), (lay1 (fun i => widen b3 (l.getD i 0)) l.length l.length, ())))))) l.length
    (fun i hi R kn ko => by
      have hll := lay1_len (fun i => widen b3 (l.getD i 0)) (Nat.le_of_lt hi)
      have hls := lay1_set (fun i => widen b3 (l.getD i 0)) hi
      unfold st_tensor_Each__kern_Widec1_0 F_kern_Widec1
      dsimp only at hls ⊢
      simp only [List.take_length, bif_dec, hll, Int.toNat_natCast]
      rw [if_pos (by omega), if_pos (by omega), widen_eq b3 (wl_get hl i)]
      simp only [Option.bind_some]
      rw [if_pos (by omega), if_pos (by omega), show 0 + i * 1 = i by omega, hls, wi64 (by omega), show ((i + 1 : Nat) : Int) = (i : Int) + 1 by omega])
    (fun R kn ko => by
      unfold st_tensor_Each__kern_Widec1_0
      dsimp only
      simp only [List.take_length, bif_dec]
      rw [if_neg (by omega)])
  rw [lay1_zero] at this
  unfold F_tensor_Each__kern_Widec1
  dsimp only
  simp only [List.take_length, bif_dec, Int.toNat_natCast]
  rw [if_pos (by omega)]
  have e : lim st_tensor_Each__kern_Widec1_0 ((l, ((l.length : Int), ((0 : Int), ()))), ((b1, (b2, (b3, (b4, ())))), (((0:Int), ((0:Int), ((0:Int), ()))), ((r, (c, (g, (l.length, ())))), (List.replicate l.length 0, ()))))) = _ := this
  rw [e]
  simp only [Option.bind_some, List.take_length, List.drop_zero, lay1_all]
  have hlen : ((List.range l.length).map (fun i => widen b3 (l.getD i 0))).length = l.length := by simp
  rw [List.take_of_length_le (by omega)]
def wideL (t : TsT) : List Int := (List.range t.2.2.2.1.length).map (fun i => widen t.2.2.1 (t.2.2.2.1.getD i 0))
abbrev noT : TsT := (0, 0, 0, [], ())
theorem wide_eq (t : TsT) (hl : wl t.2.2.2.1) (hn : t.2.2.2.1.length ≤ 1073741824) :
    F_kern_Wide t = some (if rightS t then ((t.1, t.2.1, 2, wideL t, ()), 0, ()) else (noT, 21, ())) := by
  obtain ⟨r, c, f, l, ⟨⟩⟩ := t
  simp only at hl hn
  unfold F_kern_Wide
  dsimp only
  simp only [List.take_length]
  rw [right_eq (r, c, f, l, ()) hl (by simp only; omega), eachW_eq (r, c, f, l, ()) (r, c, f, l, ()) 2 hl hn]
  simp only [Option.bind_some, List.take_length]
  cases rightS (r, c, f, l, ()) <;> rfl
end Go.Proofs.YtkknnloamidaiaaGreat.VI

namespace Go.Proofs.YtkknnloamidaiaaGreat.VI
set_option linter.unusedVariables false
set_option linter.unusedSimpArgs false
set_option linter.unusedSimpArgs false
set_option linter.unusedVariables false
set_option maxRecDepth 100000
set_option maxHeartbeats 4000000
def dtf (x y : Nat → Int) : Nat → Int
  | 0 => 0
  | n + 1 => fma (x n) (y n) (dtf x y n)
theorem dtf_w (x y : Nat → Int) : ∀ n, w32 (dtf x y n)
  | 0 => ⟨Int.le_refl 0, by show (0 : Int) < 4294967296; decide⟩
  | n + 1 => fma_w _ _ _
theorem dtf_congr {x y x' y' : Nat → Int} : ∀ {n : Nat}, (∀ i, i < n → x i = x' i ∧ y i = y' i) → dtf x y n = dtf x' y' n
  | 0, _ => rfl
  | n + 1, h => by
    simp only [dtf]
    rw [(h n (by omega)).1, (h n (by omega)).2, dtf_congr fun i hi => h i (by omega)]
abbrev gl (l : List Int) (i : Nat) : Int := l.getD i 0
theorem dot_eq (X Y : List Int) (hX : wl X) (hY : wl Y) (hn : X.length < 4611686018427387904) : F_kern_Dot X Y = some (if X.length = Y.length then (dtf (gl X) (gl Y) X.length, 0, ()) else (0, 21, ())) := by
  unfold F_kern_Dot
  simp only [List.take_length]
  rw [bif_ne]
  by_cases h : X.length = Y.length
  · rw [if_pos (by omega), if_pos h]
    have := lim_seq (st := st_kern_Dot_0) (fun i => ((Y, (dtf (gl X) (gl Y) i, (X, ((X.length : Int), ((i : Int), ()))))), ())) (b := ((dtf (gl X) (gl Y) X.length, ()), ())) X.length
      (fun i hi R kn ko => by
        unfold st_kern_Dot_0
        dsimp only
        simp only [List.take_length, bif_dec, Int.toNat_natCast]
        rw [if_pos (by omega), if_pos (by omega), if_pos (by omega), ffma_eq (wl_get hX i) (wl_get hY i) (dtf_w _ _ i), wi64 (by omega), show ((i + 1 : Nat) : Int) = (i : Int) + 1 by omega]
        rfl)
      (fun R kn ko => by
        unfold st_kern_Dot_0
        dsimp only
        simp only [bif_dec]
        rw [if_neg (by omega)])
    have e : lim st_kern_Dot_0 ((Y, ((0:Int), (X, ((X.length : Int), ((0 : Int), ()))))), ()) = _ := this
    rw [e]; rfl
  · rw [if_neg (by omega), if_neg h]
def rowL (l : List Int) (C i : Nat) : List Int := (l.drop (i * C)).take C
theorem rowL_len {l : List Int} {R C i : Nat} (hl : l.length = R * C) (hi : i < R) : (rowL l C i).length = C := by
  have : (i + 1) * C ≤ R * C := Nat.mul_le_mul_right _ hi
  rw [Nat.add_mul] at this
  unfold rowL; simp; omega
theorem rowL_get {l : List Int} {C i x : Nat} (hx : x < C) : gl (rowL l C i) x = gl l (i * C + x) := by
  unfold gl rowL
  rw [List.getD_eq_getElem?_getD, List.getElem?_take, if_pos hx, List.getElem?_drop, List.getD_eq_getElem?_getD]
theorem rowL_wl {l : List Int} {C i : Nat} (h : wl l) : wl (rowL l C i) := fun a ha => h a (List.mem_of_mem_drop (List.mem_of_mem_take ha))
theorem line_eq (f : Int) (l : List Int) (R C i : Nat) (hR : R ≤ 4096) (hC : C ≤ 4096) (hl : l.length = R * C) (hi : i < R) : F_kern_line ((R : Int), (C : Int), f, l, ()) (i : Int) = some (rowL l C i) := by
  have h1 : (i + 1) * C ≤ R * C := Nat.mul_le_mul_right _ hi
  have h2 : R * C ≤ 4096 * 4096 := Nat.mul_le_mul hR hC
  have h3 : i * C ≤ (i + 1) * C := Nat.mul_le_mul_right _ (by omega)
  have e1 : ((i : Int) * (C : Int)) = ((i * C : Nat) : Int) := by simp
  have e2 : (((i : Int) + 1) * (C : Int)) = (((i + 1) * C : Nat) : Int) := by simp
  unfold F_kern_line
  dsimp only
  rw [wi64 (n := (i : Int) + 1) (by omega), e1, e2, wi64 (n := ((i * C : Nat) : Int)) (by omega), wi64 (n := (((i + 1) * C : Nat) : Int)) (by omega), bif_dec, if_pos (by omega), Int.toNat_natCast, Int.toNat_natCast]
  have e3 : (i + 1) * C - i * C = C := by rw [Nat.add_mul]; omega
  rw [e3, List.take_take, Nat.min_self]; rfl
def tau (R C k : Nat) : Nat := (k % R) * C + k / R
def curT (V : List Int) (R C n i : Nat) : List Int := (List.range n).map fun k => if tau R C k < i then gl V (tau R C k) else 0
def turnL (V : List Int) (R C : Nat) : List Int := (List.range (R * C)).map fun k => gl V (tau R C k)
theorem sig_lt {R C i : Nat} (h : i < R * C) : i % C < C ∧ i / C < R ∧ (i % C) * R + i / C < R * C := by
  have hC : 0 < C := by apply Nat.pos_of_ne_zero; intro e; subst e; simp at h
  have a := Nat.mod_lt i hC
  have b : i / C < R := Nat.div_lt_of_lt_mul (by rw [Nat.mul_comm]; exact h)
  refine ⟨a, b, ?_⟩
  have : (i % C + 1) * R ≤ C * R := Nat.mul_le_mul_right _ a
  rw [Nat.add_mul, Nat.mul_comm C] at this; omega
theorem tau_sig {R C i : Nat} (h : i < R * C) : tau R C ((i % C) * R + i / C) = i := by
  obtain ⟨a, b, c⟩ := sig_lt h
  have hR : 0 < R := Nat.lt_of_le_of_lt (Nat.zero_le _) b
  unfold tau
  rw [Nat.mul_comm (i % C) R, Nat.mul_add_mod, Nat.mod_eq_of_lt b, Nat.mul_add_div hR, Nat.div_eq_of_lt b]
  have := Nat.div_add_mod i C
  rw [Nat.mul_comm]; omega
theorem sig_tau {R C k : Nat} (h : k < R * C) : (tau R C k % C) * R + tau R C k / C = k := by
  have hC : 0 < C := by apply Nat.pos_of_ne_zero; intro e; subst e; simp at h
  have hR : 0 < R := by apply Nat.pos_of_ne_zero; intro e; subst e; simp at h
  have b : k / R < C := Nat.div_lt_of_lt_mul h
  unfold tau
  rw [Nat.mul_comm (k % R) C, Nat.mul_add_mod, Nat.mod_eq_of_lt b, Nat.mul_add_div hC, Nat.div_eq_of_lt b]
  have := Nat.div_add_mod k R
  rw [Nat.mul_comm]; omega
theorem tau_lt {R C k : Nat} (h : k < R * C) : tau R C k < R * C := by
  have hC : 0 < C := by apply Nat.pos_of_ne_zero; intro e; subst e; simp at h
  have hR : 0 < R := by apply Nat.pos_of_ne_zero; intro e; subst e; simp at h
  have b : k / R < C := Nat.div_lt_of_lt_mul h
  have a := Nat.mod_lt k hR
  have : (k % R + 1) * C ≤ R * C := Nat.mul_le_mul_right _ a
  rw [Nat.add_mul] at this
  unfold tau; omega
theorem curT_len (V : List Int) (R C n i : Nat) : (curT V R C n i).length = n := by unfold curT; simp
theorem curT_set {V : List Int} {R C i : Nat} (h : i < R * C) : (curT V R C (R * C) i).set ((i % C) * R + i / C) (gl V i) = curT V R C (R * C) (i + 1) := by
  apply List.ext_getElem
  · simp [curT]
  · intro k h1 h2
    rw [List.getElem_set]
    have hk : k < R * C := by simpa [curT] using h2
    simp only [curT, List.getElem_map, List.getElem_range]
    by_cases e : (i % C) * R + i / C = k
    · rw [if_pos e, ← e, tau_sig h, if_pos (by omega)]
    · rw [if_neg e]
      have : tau R C k ≠ i := fun q => e (by rw [← q]; exact sig_tau hk)
      by_cases l : tau R C k < i
      · rw [if_pos l, if_pos (by omega)]
      · rw [if_neg l, if_neg (by omega)]
theorem curT_zero (V : List Int) (R C n : Nat) : curT V R C n 0 = List.replicate n 0 := by
  unfold curT
  apply List.ext_getElem
  · simp
  · intro k h1 h2; simp
theorem curT_all (V : List Int) (R C : Nat) : curT V R C (R * C) (R * C) = turnL V R C := by
  unfold curT turnL
  apply List.map_congr_left
  intro k hk
  rw [if_pos (tau_lt (List.mem_range.1 hk))]
theorem rc_bd {R C : Nat} (hR : R ≤ 4096) (hC : C ≤ 4096) : R * C ≤ 16777216 := Nat.mul_le_mul hR hC
theorem place_eq {R C i : Nat} (hR : R ≤ 4096) (hC : C ≤ 4096) (h : i < R * C) :
    IntKind.i64.wrap (IntKind.i64.wrap (Int.tmod (i : Int) (C : Int) * (R : Int)) + IntKind.i64.wrap (Int.tdiv (i : Int) (C : Int))) = (((i % C) * R + i / C : Nat) : Int) := by
  obtain ⟨a, b, c⟩ := sig_lt h
  have := rc_bd hR hC
  rw [tmod_nn (by omega), tdiv_nn (by omega)]
  have e1 : ((i : Int) % (C : Int)) = ((i % C : Nat) : Int) := by simp
  have e2 : ((i : Int) / (C : Int)) = ((i / C : Nat) : Int) := by simp
  have e3 : (((i % C : Nat) : Int) * (R : Int)) = (((i % C) * R : Nat) : Int) := by simp
  rw [e1, e2, e3]
  generalize (i % C) * R = m at *
  generalize i / C = q at *
  rw [wi64 (n := (m : Int)) (by omega), wi64 (n := (q : Int)) (by omega), wi64 (by omega)]
  omega
theorem turn_loop (R C : Nat) (f : Int) (V : List Int) (z : Int × Int × Int × Unit) (hR : R ≤ 4096) (hC : C ≤ 4096) (hV : V.length = R * C) :
    lim st_tensor_Turn_0 ((V, ((V.length : Int), ((0:Int), ()))), (((R : Int), ((C : Int), (f, (V, ())))), (z, (((C : Int), ((R : Int), (f, (V.length, ())))), (List.replicate V.length 0, ()))))) = some ((), (z, (((C : Int), ((R : Int), (f, (V.length, ())))), (turnL V R C, ())))) := by
  have hb := rc_bd hR hC
  have := lim_seq (st := st_tensor_Turn_0) (fun i => ((V, ((V.length : Int), ((i : Int), ()))), (((R : Int), ((C : Int), (f, (V, ())))), (z, (((C : Int), ((R : Int), (f, (V.length, ())))), (curT V R C (R * C) i, ()))))))
    (b := ((), (z, (((C : Int), ((R : Int), (f, (V.length, ())))), (turnL V R C, ()))))) V.length
    (fun i hi R' kn ko => by
      rw [hV] at hi
      obtain ⟨a, b, c⟩ := sig_lt hi
      have hll := curT_len V R C (R * C) i
      have hls := curT_set (V := V) hi
      have hCb : ((C : Int) == 0) = false := by simp; omega
      unfold st_tensor_Turn_0
      dsimp only
      simp only [List.take_length, bif_dec, hll, Int.toNat_natCast, place_eq hR hC hi, hCb, cond_false]
      generalize (i % C) * R + i / C = s at *
      rw [if_pos (by omega), if_pos (by omega), if_pos (by omega), if_pos (by omega), show 0 + s * 1 = s by omega, hls, wi64 (by omega), show ((i + 1 : Nat) : Int) = (i : Int) + 1 by omega])
    (fun R' kn ko => by
      unfold st_tensor_Turn_0
      dsimp only
      simp only [bif_dec]
      rw [if_neg (by omega), hV, curT_all])
  rw [curT_zero, ← hV] at this
  exact this
theorem turn_eq13 (R C : Nat) (f : Int) (V : List Int) (hR : R ≤ 4096) (hC : C ≤ 4096) (hV : V.length = R * C) (hw : wl V) :
    F_tensor_Turn ((R : Int), (C : Int), f, V, ()) = some (if rightS ((R : Int), (C : Int), f, V, ()) then (((C : Int), (R : Int), f, turnL V R C, ()), 0, ()) else (noT, 21, ())) := by
  have hb := rc_bd hR hC
  unfold F_tensor_Turn
  dsimp only
  simp only [List.take_length, Int.toNat_natCast]
  rw [right_eq _ hw (by simp only; omega), turn_loop R C f V _ hR hC hV]
  simp only [Option.bind_some, bif_dec]
  rw [if_pos (by omega)]
  have hl : (turnL V R C).length = V.length := by unfold turnL; simp [hV]
  rw [List.drop_zero, List.take_of_length_le (by omega)]
  cases rightS ((R : Int), (C : Int), f, V, ()) <;> rfl
end Go.Proofs.YtkknnloamidaiaaGreat.VI

namespace Go.Proofs.YtkknnloamidaiaaGreat.VI
set_option linter.unusedVariables false
set_option linter.unusedSimpArgs false
set_option linter.unusedSimpArgs false
set_option linter.unusedVariables false
set_option maxRecDepth 100000
set_option maxHeartbeats 4000000
def prodH (A B : List Int) (C J k : Nat) : Int := dtf (fun x => gl A ((k / J) * C + x)) (fun x => gl B ((k % J) * C + x)) C
def prodL (A B : List Int) (C J n : Nat) : List Int := (List.range n).map (prodH A B C J)
theorem prodL_len (A B : List Int) (C J n : Nat) : (prodL A B C J n).length = n := by unfold prodL; simp
theorem prodL_wl (A B : List Int) (C J n : Nat) : wl (prodL A B C J n) := range_wl fun i => dtf_w _ _ _
theorem row_dot {A B : List Int} {R J C i j : Nat} (hA : A.length = R * C) (hB : B.length = J * C) (wA : wl A) (wB : wl B) (hi : i < R) (hj : j < J) (hR : R ≤ 4096) (hC : C ≤ 4096) (hJ : J ≤ 4096) :
    F_kern_Dot (rowL A C i) (rowL B C j) = some (prodH A B C J (i * J + j), 0, ()) := by
  have l1 := rowL_len hA hi
  have l2 := rowL_len hB hj
  rw [dot_eq _ _ (rowL_wl wA) (rowL_wl wB) (by omega), if_pos (by omega), l1]
  have d1 : (i * J + j) / J = i := by rw [Nat.mul_comm, Nat.mul_add_div (by omega), Nat.div_eq_of_lt hj]; omega
  have d2 : (i * J + j) % J = j := by rw [Nat.mul_comm, Nat.mul_add_mod, Nat.mod_eq_of_lt hj]
  unfold prodH
  rw [d1, d2]
  congr 2
  exact dtf_congr fun x hx => ⟨rowL_get hx, rowL_get hx⟩
theorem product_inner (R C J i : Nat) (f g : Int) (A B : List Int) (z : Int × Int × Int × Unit) (hR : R ≤ 4096) (hC : C ≤ 4096) (hJ : J ≤ 4096) (hA : A.length = R * C) (hB : B.length = J * C) (wA : wl A) (wB : wl B) (hi : i < R) :
    lim st_kern_product_1 (((i : Int), ((R : Int), ((i : Int), ((J : Int), ((0:Int), ()))))), (((R : Int), ((C : Int), (f, (A, ())))), (((J : Int), ((C : Int), (g, (B, ())))), (z, (((R : Int), ((J : Int), ((2 : Int), ((i * J), ())))), (prodL A B C J (i * J), ())))))) =
      some (((R : Int), ((i : Int), ())), (((R : Int), ((C : Int), (f, (A, ())))), (((J : Int), ((C : Int), (g, (B, ())))), (z, (((R : Int), ((J : Int), ((2 : Int), (((i + 1) * J), ())))), (prodL A B C J ((i + 1) * J), ())))))) := by
  have hb := rc_bd hR hJ
  have hrc : (i + 1) * J ≤ R * J := Nat.mul_le_mul_right _ hi
  have he : (i + 1) * J = i * J + J := by rw [Nat.add_mul, Nat.one_mul]
  have := lim_seq (st := st_kern_product_1) (fun j => (((i : Int), ((R : Int), ((i : Int), ((J : Int), ((j : Int), ()))))), (((R : Int), ((C : Int), (f, (A, ())))), (((J : Int), ((C : Int), (g, (B, ())))), (z, (((R : Int), ((J : Int), ((2 : Int), ((i * J + j), ())))), (prodL A B C J (i * J + j), ())))))))
    (b := (((R : Int), ((i : Int), ())), (((R : Int), ((C : Int), (f, (A, ())))), (((J : Int), ((C : Int), (g, (B, ())))), (z, (((R : Int), ((J : Int), ((2 : Int), ((i * J + J), ())))), (prodL A B C J (i * J + J), ()))))))) J
    (fun j hj R' kn ko => by
      unfold st_kern_product_1
      dsimp only
      simp only [List.take_length, bif_dec, line_eq f A R C i hR hC hA hi, line_eq g B J C j hJ hC hB hj, Option.bind_some, row_dot hA hB wA wB hi hj hR hC hJ]
      rw [if_pos (show (j : Int) < (J : Int) by omega), if_pos (show i * J + j + 1 ≤ 1073741824 by omega), wi64 (by omega), show ((j + 1 : Nat) : Int) = (j : Int) + 1 by omega]
      have hl := prodL_len A B C J (i * J + j)
      rw [List.take_of_length_le (by omega)]
      have : prodL A B C J (i * J + j) ++ [prodH A B C J (i * J + j)] = prodL A B C J (i * J + (j + 1)) := by
        unfold prodL; rw [← Nat.add_assoc, List.range_succ, List.map_append]; rfl
      rw [this]; rfl)
    (fun R' kn ko => by
      unfold st_kern_product_1
      dsimp only
      simp only [List.take_length, bif_dec]
      rw [if_neg (show ¬ (J : Int) < (J : Int) by omega)])
  rw [he]
  exact this
theorem product_eq (R C J D : Nat) (f g : Int) (A B : List Int) (hR : R ≤ 4096) (hC : C ≤ 4096) (hJ : J ≤ 4096) (hA : A.length = R * C) (hB : B.length = J * D) (wA : wl A) (wB : wl B) :
    F_kern_product ((R : Int), (C : Int), f, A, ()) ((J : Int), (D : Int), g, B, ()) = some (if C = D then (((R : Int), (J : Int), 2, prodL A B C J (R * J), ()), 0, ()) else (noT, 21, ())) := by
  unfold F_kern_product
  dsimp only
  simp only [List.take_length]
  rw [bif_ne]
  by_cases hCD : C = D
  · subst hCD
    rw [if_pos rfl, if_pos rfl]
    have := lim_seq (st := st_kern_product_0) (fun i => (((R : Int), ((i : Int), ())), (((R : Int), ((C : Int), (f, (A, ())))), (((J : Int), ((C : Int), (g, (B, ())))), (((0:Int), ((0:Int), ((0:Int), ()))), (((R : Int), ((J : Int), ((2 : Int), ((i * J), ())))), (prodL A B C J (i * J), ())))))))
      (b := ((), (((0:Int), ((0:Int), ((0:Int), ()))), (((R : Int), ((J : Int), ((2 : Int), ((R * J), ())))), (prodL A B C J (R * J), ()))))) R
      (fun i hi R' kn ko => by
        unfold st_kern_product_0
        dsimp only
        simp only [List.take_length, bif_dec]
        rw [if_pos (show (i : Int) < (R : Int) by omega), product_inner R C J i f g A B _ hR hC hJ hA hB wA wB hi]
        simp only [Option.bind_some, List.take_length]
        rw [wi64 (by omega), show ((i + 1 : Nat) : Int) = (i : Int) + 1 by omega])
      (fun R' kn ko => by
        unfold st_kern_product_0
        dsimp only
        simp only [bif_dec]
        rw [if_neg (show ¬ (R : Int) < (R : Int) by omega)])
    have e : lim st_kern_product_0 (((R : Int), ((0 : Int), ())), (((R : Int), ((C : Int), (f, (A, ())))), (((J : Int), ((C : Int), (g, (B, ())))), (((0:Int), ((0:Int), ((0:Int), ()))), (((R : Int), ((J : Int), ((2 : Int), ((0 : Nat), ())))), ([], ())))))) = some ((), (((0:Int), ((0:Int), ((0:Int), ()))), (((R : Int), ((J : Int), ((2 : Int), ((R * J), ())))), (prodL A B C J (R * J), ())))) := by
      have h0 : prodL A B C J (0 * J) = [] := by simp [prodL]
      simp only [Nat.zero_mul] at this h0
      rw [h0] at this
      exact this
    rw [e]
    simp only [Option.bind_some, List.drop_zero]
    rw [List.take_of_length_le (by rw [prodL_len]; exact Nat.le_refl _)]
  · rw [if_neg (by omega), if_neg hCD]
theorem nums_eq (X Y : List Int) (hn : X.length < 4611686018427387904) : F_annealhelp_Nums X Y = some (decide (X = Y)) := by
  unfold F_annealhelp_Nums
  simp only [List.take_length]
  rw [bif_ne]
  by_cases h : X.length = Y.length
  · rw [if_pos (by omega)]
    have step : ∀ i, i < X.length → gl X i = gl Y i → ∀ R kn ko, st_annealhelp_Nums_0 R ((X, (Y, ((i : Int), ()))), ()) kn ko = kn ((X, (Y, (((i + 1 : Nat) : Int), ()))), ()) := by
      intro i hi he R kn ko
      unfold st_annealhelp_Nums_0
      dsimp only
      simp only [List.take_length, bif_dec, Int.toNat_natCast]
      rw [if_pos (by omega), if_pos (by omega), if_pos (by omega)]
      have : (X.getD i 0 != Y.getD i 0) = false := by simpa [gl] using he
      rw [this, wi64 (by omega), show ((i + 1 : Nat) : Int) = (i : Int) + 1 by omega]; rfl
    rcases first_or (fun i => gl X i != gl Y i) X.length with k | ⟨k, h1, h2, h3⟩
    · have := lim_seq (st := st_annealhelp_Nums_0) (fun i => ((X, (Y, ((i : Int), ()))), ())) (b := Sum.inl ((), ())) X.length
        (fun i hi R kn ko => step i hi (by simpa using k i hi) R kn ko)
        (fun R kn ko => by
          unfold st_annealhelp_Nums_0
          dsimp only
          simp only [bif_dec]
          rw [if_neg (by omega)])
      have e : lim st_annealhelp_Nums_0 ((X, (Y, ((0 : Int), ()))), ()) = _ := this
      rw [e]
      have he : X = Y := by
        apply List.ext_getElem h
        intro i h1 h2
        have := k i h1
        have q : gl X i = gl Y i := by simpa using this
        unfold gl at q
        rwa [gtd h1, gtd h2] at q
      rw [decide_eq_true he]; rfl
    · have := lim_seq (st := st_annealhelp_Nums_0) (fun i => ((X, (Y, ((i : Int), ()))), ())) (b := Sum.inr ((false, ()), ())) k
        (fun i hi R kn ko => step i (by omega) (by simpa using h2 i hi) R kn ko)
        (fun R kn ko => by
          unfold st_annealhelp_Nums_0
          dsimp only
          simp only [bif_dec, Int.toNat_natCast]
          rw [if_pos (by omega), if_pos (by omega), if_pos (by omega)]
          have : (X.getD k 0 != Y.getD k 0) = true := h3
          rw [this]; rfl)
      have e : lim st_annealhelp_Nums_0 ((X, (Y, ((0 : Int), ()))), ()) = _ := this
      rw [e]
      have he : X ≠ Y := by intro q; rw [q] at h3; simp at h3
      rw [decide_eq_false he]; rfl
  · rw [if_neg (by omega)]
    have : X ≠ Y := fun q => h (by rw [q])
    rw [decide_eq_false this]
theorem tens_eq (a b : TsT) (hn : a.2.2.2.1.length < 4611686018427387904) : F_annealhelp_Tensor a b = some (decide (a = b)) := by
  obtain ⟨a1, a2, a3, a4, ⟨⟩⟩ := a
  obtain ⟨b1, b2, b3, b4, ⟨⟩⟩ := b
  unfold F_annealhelp_Tensor
  dsimp only
  simp only [List.take_length, bif_eq]
  rw [nums_eq a4 b4 hn]
  by_cases h1 : a1 = b1
  · by_cases h2 : a2 = b2
    · by_cases h3 : a3 = b3
      · rw [if_pos h1, if_pos h2, if_pos h3]; subst h1; subst h2; subst h3; simp
      · rw [if_pos h1, if_pos h2, if_neg h3]; simp [h3]
    · rw [if_pos h1, if_neg h2]; simp [h2]
  · rw [if_neg h1]; simp [h1]
end Go.Proofs.YtkknnloamidaiaaGreat.VI

namespace Go.Proofs.YtkknnloamidaiaaGreat.VI
set_option linter.unusedVariables false
set_option linter.unusedSimpArgs false
set_option linter.unusedSimpArgs false
set_option linter.unusedVariables false
set_option maxRecDepth 100000
set_option maxHeartbeats 4000000
theorem right_nat {a b f : Int} {l : List Int} (h : rightS (a, b, f, l, ()) = true) : ∃ R C : Nat, a = R ∧ b = C ∧ R ≤ 4096 ∧ C ≤ 4096 ∧ l.length = R * C ∧ knownS f = true ∧ l.all (fits f) = true := by
  unfold rightS at h
  simp only [Bool.and_eq_true, decide_eq_true_eq] at h
  obtain ⟨⟨h1, h2, h3, h4⟩, h5, h6, h7⟩ := h
  refine ⟨a.toNat, b.toNat, by omega, by omega, by omega, by omega, ?_, h5, h7⟩
  have e : ((l.length : Nat) : Int) = ((a.toNat * b.toNat : Nat) : Int) := by
    rw [h6]; push_cast; rw [Int.toNat_of_nonneg h1, Int.toNat_of_nonneg h3]
  exact_mod_cast e
theorem right_mk {R C : Nat} {f : Int} {l : List Int} (hR : R ≤ 4096) (hC : C ≤ 4096) (hl : l.length = R * C) (hf : knownS f = true) (ha : l.all (fits f) = true) : rightS ((R : Int), (C : Int), f, l, ()) = true := by
  unfold rightS
  simp only [Bool.and_eq_true, decide_eq_true_eq]
  refine ⟨⟨by omega, by omega, by omega, by omega⟩, hf, ?_, ha⟩
  rw [hl]; simp
theorem fits2 {l : List Int} (h : wl l) : l.all (fits 2) = true := by
  rw [List.all_eq_true]; intro a ha
  have := h a ha
  unfold fits; simp [TT]; omega
theorem wideL_len (t : TsT) : (wideL t).length = t.2.2.2.1.length := by unfold wideL; simp
theorem wideL_wl (t : TsT) : wl (wideL t) := range_wl fun i => widen_w _ _
theorem turnL_len (V : List Int) (R C : Nat) : (turnL V R C).length = R * C := by unfold turnL; simp
theorem turnL_wl {V : List Int} (h : wl V) (R C : Nat) : wl (turnL V R C) := by
  intro a ha; unfold turnL at ha
  obtain ⟨i, _, rfl⟩ := List.mem_map.1 ha; exact wl_get h _
theorem both_eq (a b : TsT) (hA : wl a.2.2.2.1) (hB : wl b.2.2.2.1) (nA : a.2.2.2.1.length ≤ 1073741824) (nB : b.2.2.2.1.length ≤ 1073741824) :
    F_kern_both a b = some ((if rightS a then (a.1, a.2.1, 2, wideL a, ()) else noT), (if rightS b then (b.1, b.2.1, 2, wideL b, ()) else noT), rightS a && rightS b, ()) := by
  obtain ⟨a1, a2, a3, a4, ⟨⟩⟩ := a
  obtain ⟨b1, b2, b3, b4, ⟨⟩⟩ := b
  simp only at hA hB nA nB
  unfold F_kern_both
  dsimp only
  simp only [List.take_length]
  rw [wide_eq (a1, a2, a3, a4, ()) hA nA, wide_eq (b1, b2, b3, b4, ()) hB nB]
  simp only [Option.bind_some]
  cases rightS (a1, a2, a3, a4, ()) <;> cases rightS (b1, b2, b3, b4, ()) <;> simp [bif_eq]
theorem turned_eq (R C : Nat) (f : Int) (V : List Int) (p : Bool) (hR : R ≤ 4096) (hC : C ≤ 4096) (hV : V.length = R * C) (hw : wl V) (hr : rightS ((R : Int), (C : Int), f, V, ()) = true) :
    F_kern_turned ((R : Int), (C : Int), f, V, ()) p = some (if p then ((C : Int), (R : Int), f, turnL V R C, ()) else ((R : Int), (C : Int), f, V, ())) := by
  unfold F_kern_turned
  dsimp only
  simp only [List.take_length]
  rw [turn_eq13 R C f V hR hC hV hw, hr]
  cases p <;> simp
theorem times_bad (a b : TsT) (p q : Bool) (hA : wl a.2.2.2.1) (hB : wl b.2.2.2.1) (nA : a.2.2.2.1.length ≤ 1073741824) (nB : b.2.2.2.1.length ≤ 1073741824) (h : (rightS a && rightS b) = false) : F_kern_times a b p q = some (noT, 21, ()) := by
  have hb := both_eq a b hA hB nA nB
  unfold F_kern_times
  dsimp only
  simp only [List.take_length]
  rw [show (a.1, a.2.1, a.2.2.1, a.2.2.2.1, ()) = a from rfl, show (b.1, b.2.1, b.2.2.1, b.2.2.2.1, ()) = b from rfl, hb, h]
  rfl
theorem times_ok (R C J D : Nat) (f g : Int) (A B : List Int) (p q : Bool) (hA : wl A) (hB : wl B) (rA : rightS ((R : Int), (C : Int), f, A, ()) = true) (rB : rightS ((J : Int), (D : Int), g, B, ()) = true) :
    F_kern_times ((R : Int), (C : Int), f, A, ()) ((J : Int), (D : Int), g, B, ()) p q =
      some (if (if p then R else C) = (if q then J else D) then
        ((((if p then C else R : Nat) : Int), ((if q then D else J : Nat) : Int), 2, prodL (if p then turnL (wideL ((R : Int), (C : Int), f, A, ())) R C else wideL ((R : Int), (C : Int), f, A, ())) (if q then turnL (wideL ((J : Int), (D : Int), g, B, ())) J D else wideL ((J : Int), (D : Int), g, B, ())) (if p then R else C) (if q then D else J) ((if p then C else R) * (if q then D else J)), ()), 0, ()) else (noT, 21, ())) := by
  obtain ⟨R', C', e1, e2, hR, hC, lA, _, _⟩ := right_nat rA
  obtain ⟨J', D', e3, e4, hJ, hD, lB, _, _⟩ := right_nat rB
  obtain rfl : R = R' := by omega
  obtain rfl : C = C' := by omega
  obtain rfl : J = J' := by omega
  obtain rfl : D = D' := by omega
  have b1 := rc_bd hR hC
  have b2 := rc_bd hJ hD
  have hb := both_eq ((R : Int), (C : Int), f, A, ()) ((J : Int), (D : Int), g, B, ()) hA hB (by simp only; omega) (by simp only; omega)
  unfold F_kern_times
  dsimp only
  simp only [List.take_length]
  rw [hb, rA, rB]
  have lWA := wideL_len ((R : Int), (C : Int), f, A, ())
  have lWB := wideL_len ((J : Int), (D : Int), g, B, ())
  have wWA := wideL_wl ((R : Int), (C : Int), f, A, ())
  have wWB := wideL_wl ((J : Int), (D : Int), g, B, ())
  simp only at lWA lWB
  generalize wideL ((R : Int), (C : Int), f, A, ()) = X at *
  generalize wideL ((J : Int), (D : Int), g, B, ()) = Y at *
  have rX := right_mk (f := 2) hR hC (show X.length = R * C by omega) (by decide) (fits2 wWA)
  have rY := right_mk (f := 2) hJ hD (show Y.length = J * D by omega) (by decide) (fits2 wWB)
  simp only [Option.bind_some, Bool.and_self, Bool.not_true, cond_false, if_true]
  rw [turned_eq R C 2 X p hR hC (by omega) wWA rX, turned_eq J D 2 Y q hJ hD (by omega) wWB rY]
  have tX := turnL_len X R C
  have tY := turnL_len Y J D
  have uX := turnL_wl wWA R C
  have uY := turnL_wl wWB J D
  have c1 : C * R = R * C := Nat.mul_comm _ _
  have c2 : D * J = J * D := Nat.mul_comm _ _
  cases p <;> cases q <;> simp only [Option.bind_some, if_true, if_false, Bool.false_eq_true, List.take_length]
  · rw [product_eq R C J D 2 2 X Y hR hC hJ (by omega) (by omega) wWA wWB]
    simp only [Option.bind_some, List.take_length]
  · rw [product_eq R C D J 2 2 X (turnL Y J D) hR hC hD (by omega) (by omega) wWA uY]
    simp only [Option.bind_some, List.take_length]
  · rw [product_eq C R J D 2 2 (turnL X R C) Y hC hR hJ (by omega) (by omega) uX wWB]
    simp only [Option.bind_some, List.take_length]
  · rw [product_eq C R D J 2 2 (turnL X R C) (turnL Y J D) hC hR hD (by omega) (by omega) uX uY]
    simp only [Option.bind_some, List.take_length]
theorem plain_un (a b : TsT) : F_kern_Plain a b = F_kern_times a b false true := by
  unfold F_kern_Plain; dsimp only; simp only [List.take_length]
  rw [show (a.1, a.2.1, a.2.2.1, a.2.2.2.1, ()) = a from rfl, show (b.1, b.2.1, b.2.2.1, b.2.2.2.1, ()) = b from rfl]
  cases F_kern_times a b false true <;> rfl
theorem rows_un (a b : TsT) : F_kern_Rows a b = F_kern_times a b false false := by
  unfold F_kern_Rows; dsimp only; simp only [List.take_length]
  rw [show (a.1, a.2.1, a.2.2.1, a.2.2.2.1, ()) = a from rfl, show (b.1, b.2.1, b.2.2.1, b.2.2.2.1, ()) = b from rfl]
  cases F_kern_times a b false false <;> rfl
theorem cols_un (a b : TsT) : F_kern_Cols a b = F_kern_times a b true true := by
  unfold F_kern_Cols; dsimp only; simp only [List.take_length]
  rw [show (a.1, a.2.1, a.2.2.1, a.2.2.2.1, ()) = a from rfl, show (b.1, b.2.1, b.2.2.1, b.2.2.2.1, ()) = b from rfl]
  cases F_kern_times a b true true <;> rfl
theorem known14 : F_anneallaw14_known = some true := by
  unfold F_anneallaw14_known
  have wA : wl [1073741824, 1065353216] := by intro a ha; simp at ha; rcases ha with h | h <;> subst h <;> decide
  have wB : wl [1077936128, 1065353216] := by intro a ha; simp at ha; rcases ha with h | h <;> subst h <;> decide
  have wC : wl [16384] := by intro a ha; simp at ha; subst ha; decide
  rw [dot_eq _ _ wA wB (by decide), rows_un]
  have t := times_ok 1 1 1 1 0 1 [16384] [16384] false false wC wC (by decide) (by decide)
  have t' : F_kern_times ((1:Int), ((1:Int), ((0:Int), ([(16384:Int)], ())))) ((1:Int), ((1:Int), ((1:Int), ([(16384:Int)], ())))) false false = _ := t
  rw [t']
  have d1 : dtf (gl [1073741824, 1065353216]) (gl [1077936128, 1065353216]) 2 = 1088421888 := by decide +kernel
  have d2 : prodL (wideL (1, 1, 0, [16384], ())) (wideL (1, 1, 1, [16384], ())) 1 1 1 = [1082130432] := by decide +kernel
  have e1 : (if ([1073741824, 1065353216] : List Int).length = ([1077936128, 1065353216] : List Int).length then (dtf (gl [1073741824, 1065353216]) (gl [1077936128, 1065353216]) ([1073741824, 1065353216] : List Int).length, 0, ()) else ((0 : Int), (21 : Int), ())) = (1088421888, 0, ()) := by
    rw [← d1]; rfl
  rw [e1]
  simp only [Option.bind_some, if_true, if_false, Bool.false_eq_true]
  have d3 : prodL (wideL (((1 : Nat) : Int), ((1 : Nat) : Int), 0, [16384], ())) (wideL (((1 : Nat) : Int), ((1 : Nat) : Int), 1, [16384], ())) 1 1 (1 * 1) = [1082130432] := d2
  rw [d3]
  rfl
end Go.Proofs.YtkknnloamidaiaaGreat.VI
