import Derived.Test.YtkknnloamidaiaaTa2f20ad9
namespace Go.Proofs.Ytkknnloamidaiaa.VI
set_option linter.unusedVariables false
set_option linter.unusedSimpArgs false
set_option linter.unusedSimpArgs false
set_option linter.unusedVariables false
set_option maxRecDepth 100000
set_option maxHeartbeats 4000000
abbrev TsT : Type := Int × Int × Int × List Int × Unit
abbrev wl (l : List Int) : Prop := ∀ a ∈ l, w32 a
theorem wl_ok {l : List Int} (h : ∀ a ∈ l, inR .u32 a) : wl l := fun a ha => ⟨(h a ha).1, Int.lt_add_one_of_le (h a ha).2⟩
theorem wl_get {l : List Int} (h : wl l) (i : Nat) : w32 (l.getD i 0) := by
  rw [List.getD_eq_getElem?_getD]
  cases e : l[i]? with
  | none => exact ⟨by decide, by decide⟩
  | some a => exact h a (List.mem_of_getElem? e)
def knownS (f : Int) : Bool := decide (f = 0 ∨ f = 1 ∨ f = 2)
def fits (f v : Int) : Bool := decide (v < 2 * TT f)
def rightS (t : TsT) : Bool := decide (0 ≤ t.1 ∧ t.1 ≤ 4096 ∧ 0 ≤ t.2.1 ∧ t.2.1 ≤ 4096) && (knownS t.2.2.1 && (decide ((t.2.2.2.1.length : Int) = t.1 * t.2.1) && t.2.2.2.1.all (fits t.2.2.1)))
theorem known_t (f : Int) : F_tensor_known f = some (knownS f) := by
  unfold F_tensor_known knownS
  rw [bif_eq, bif_eq]
  by_cases h0 : f = 0
  · simp [h0]
  · by_cases h1 : f = 1
    · simp [h1]
    · simp only [if_neg h0, if_neg h1]
      congr 1; rw [Bool.eq_iff_iff]; simp [h0, h1]
theorem known_r (f : Int) : F_annealref13_known f = some (knownS f) := known_t f
theorem nat_hi (y : Nat) (h : y < 2 ^ 32) : y &&& (4294967295 - 65535) = 0 ↔ y < 65536 := by
  constructor
  · intro k
    have e : (y &&& (4294967295 - 65535)) >>> 16 = (y >>> 16) &&& 65535 := by rw [Nat.shiftRight_and_distrib]; rfl
    rw [k] at e
    have e2 : (y >>> 16) &&& 65535 = (y >>> 16) % 65536 := Nat.and_two_pow_sub_one_eq_mod _ 16
    rw [e2, Nat.shiftRight_eq_div_pow] at e
    simp at e
    omega
  · intro k
    apply Nat.eq_of_testBit_eq
    intro i
    rw [Nat.testBit_and, Nat.zero_testBit]
    by_cases hi : i < 16
    · have : Nat.testBit (4294967295 - 65535) i = false := by
        rw [show 4294967295 - 65535 = 2 ^ 16 * 65535 by rfl, Nat.testBit_two_pow_mul]; simp; omega
      rw [this, Bool.and_false]
    · have : y.testBit i = false := Nat.testBit_lt_two_pow (Nat.lt_of_lt_of_le (show y < 2 ^ 16 from k) (Nat.pow_le_pow_right (by omega) (by omega)))
      rw [this, Bool.false_and]
theorem andNot_fits (f : Int) {v : Int} (h : w32 v) : (bits .andNot .u32 v (2 * TT f - 1) != 0) = !(fits f v) := by
  unfold fits
  rcases TT_cs f with e | e <;> rw [e]
  · rw [show (2 * 32768 - 1 : Int) = 65535 from rfl, u32_andNot _ _ h.1 h.2 (by omega) (by omega)]
    have := nat_hi v.toNat (by omega)
    rw [show (65535 : Int).toNat = 65535 from rfl, Bool.eq_iff_iff]
    simp only [bne_iff_ne, Bool.not_eq_true', decide_eq_false_iff_not]
    have h2 : ((v.toNat &&& (4294967295 - 65535) : Nat) : Int) ≠ 0 ↔ ¬ (v.toNat &&& (4294967295 - 65535)) = 0 := by omega
    rw [h2, this]; omega
  · rw [show (2 * 2147483648 - 1 : Int) = 4294967295 from rfl, u32_andNot _ _ h.1 h.2 (by omega) (by omega)]
    rw [show (4294967295 : Int).toNat = 4294967295 from rfl, Nat.sub_self, Nat.and_zero]
    have : decide (v < 2 * 2147483648) = true := by simp; omega
    rw [this]; rfl
theorem first_or (p : Nat → Bool) (n : Nat) : (∀ i, i < n → p i = false) ∨ ∃ k, k < n ∧ (∀ i, i < k → p i = false) ∧ p k = true := by
  induction n with
  | zero => left; intro i h; omega
  | succ n ih =>
    rcases ih with h | ⟨k, h1, h2, h3⟩
    · cases hp : p n with
      | false => left; intro i hi; by_cases e : i = n
                 · rw [e]; exact hp
                 · exact h i (by omega)
      | true => right; exact ⟨n, by omega, h, hp⟩
    · right; exact ⟨k, by omega, h2, h3⟩
theorem all_get {l : List Int} {p : Int → Bool} : l.all p = true ↔ ∀ i, i < l.length → p (l.getD i 0) = true := by
  rw [List.all_eq_true]
  constructor
  · intro h i hi; rw [gtd hi]; exact h _ (List.getElem_mem hi)
  · intro h a ha
    obtain ⟨i, hi, rfl⟩ := List.getElem_of_mem ha
    have := h i hi; rwa [gtd hi] at this
theorem index_eq (l : List Int) (b : TsT) (hl : wl l) (hn : l.length < 4611686018427387904) :
    ∃ r, F_slices_IndexFuncLLJuint32_uint32J__tensor_Rightc1 l b = some (r, (b, ())) ∧ (r ≥ 0 ↔ ¬ l.all (fits b.2.2.1) = true) := by
  obtain ⟨b1, b2, b3, b4, ⟨⟩⟩ := b
  unfold F_slices_IndexFuncLLJuint32_uint32J__tensor_Rightc1
  dsimp only
  simp only [List.take_length]
  have step : ∀ i, i < l.length → fits b3 (l.getD i 0) = true → ∀ R kn ko, st_slices_IndexFuncLLJuint32_uint32J__tensor_Rightc1_0 R ((l, ((l.length : Int), ((i : Int), ()))), ((b1, (b2, (b3, (b4, ())))), ())) kn ko = kn ((l, ((l.length : Int), (((i + 1 : Nat) : Int), ()))), ((b1, (b2, (b3, (b4, ())))), ())) := by
    intro i hi hf R kn ko
    unfold st_slices_IndexFuncLLJuint32_uint32J__tensor_Rightc1_0 F_tensor_Rightc1
    dsimp only
    simp only [List.take_length, bif_dec]
    rw [if_pos (by omega), if_pos (by omega), Int.toNat_natCast, mask_eq]
    simp only [Option.bind_some]
    rw [andNot_fits b3 (wl_get hl i), hf, wi64 (by omega), show ((i + 1 : Nat) : Int) = (i : Int) + 1 by omega]; rfl
  rcases first_or (fun i => !(fits b3 (l.getD i 0))) l.length with h | ⟨k, h1, h2, h3⟩
  · have := lim_seq (st := st_slices_IndexFuncLLJuint32_uint32J__tensor_Rightc1_0) (fun i => ((l, ((l.length : Int), ((i : Int), ()))), ((b1, (b2, (b3, (b4, ())))), ()))) (b := Sum.inl ((), ((b1, (b2, (b3, (b4, ())))), ()))) l.length
      (fun i hi R kn ko => step i hi (by simpa using h i hi) R kn ko)
      (fun R kn ko => by
        unfold st_slices_IndexFuncLLJuint32_uint32J__tensor_Rightc1_0
        dsimp only
        simp only [List.take_length, bif_dec]
        rw [if_neg (by omega)])
    have e : lim st_slices_IndexFuncLLJuint32_uint32J__tensor_Rightc1_0 ((l, ((l.length : Int), ((0 : Int), ()))), ((b1, (b2, (b3, (b4, ())))), ())) = _ := this
    rw [e]
    refine ⟨-1, by simp only [Option.bind_some, els, List.take_length], ?_⟩
    have ha : l.all (fits b3) = true := all_get.2 fun i hi => by simpa using h i hi
    simp [ha]
  · have := lim_seq (st := st_slices_IndexFuncLLJuint32_uint32J__tensor_Rightc1_0) (fun i => ((l, ((l.length : Int), ((i : Int), ()))), ((b1, (b2, (b3, (b4, ())))), ()))) (b := Sum.inr (((k : Int), ()), ((b1, (b2, (b3, (b4, ())))), ()))) k
      (fun i hi R kn ko => step i (by omega) (by simpa using h2 i hi) R kn ko)
      (fun R kn ko => by
        unfold st_slices_IndexFuncLLJuint32_uint32J__tensor_Rightc1_0 F_tensor_Rightc1
        dsimp only
        simp only [List.take_length, bif_dec]
        rw [if_pos (by omega), if_pos (by omega), Int.toNat_natCast, mask_eq]
        simp only [Option.bind_some]
        rw [andNot_fits b3 (wl_get hl k), h3]; rfl)
    have e : lim st_slices_IndexFuncLLJuint32_uint32J__tensor_Rightc1_0 ((l, ((l.length : Int), ((0 : Int), ()))), ((b1, (b2, (b3, (b4, ())))), ())) = _ := this
    rw [e]
    refine ⟨(k : Int), by simp only [Option.bind_some, els, List.take_length], ?_⟩
    have ha : ¬ l.all (fits b3) = true := fun h => by
      have q := all_get.1 h k h1; rw [q] at h3; cases h3
    exact ⟨fun _ => ha, fun _ => by omega⟩
theorem right_eq (t : TsT) (hl : wl t.2.2.2.1) (hn : t.2.2.2.1.length < 4611686018427387904) : F_tensor_Right t = some (rightS t) := by
  obtain ⟨a, b, f, l, ⟨⟩⟩ := t
  simp only at hl hn
  obtain ⟨r, hr, hr2⟩ := index_eq l (a, b, f, l, ()) hl hn
  unfold F_tensor_Right rightS F_slices_ContainsFuncLLJuint32_uint32J__tensor_Rightc1
  dsimp only
  simp only [List.take_length, bif_dec, known_t, Option.bind_some, hr, bif_ne]
  by_cases h1 : 0 ≤ a ∧ a ≤ 4096 ∧ 0 ≤ b ∧ b ≤ 4096
  · rw [if_neg (by omega), if_neg (by omega), if_neg (by omega), if_neg (by omega), decide_eq_true h1]
    have hm : IntKind.i64.wrap (a * b) = a * b := by
      have : 0 ≤ a * b := Int.mul_nonneg h1.1 h1.2.2.1
      have : a * b ≤ 4096 * 4096 := Int.mul_le_mul h1.2.1 h1.2.2.2 h1.2.2.1 (by omega)
      exact wi64 (by omega)
    rw [hm]
    cases knownS f
    · rfl
    · by_cases h2 : (l.length : Int) = a * b
      · rw [if_pos h2, decide_eq_true h2]
        simp only [Bool.not_true, cond_false, Bool.true_and]
        congr 1
        have hb : decide (r ≥ 0) = !(l.all (fits f)) := by
          rw [Bool.eq_iff_iff, decide_eq_true_eq, hr2]; simp
        rw [hb]; simp
      · rw [if_neg h2, decide_eq_false h2]; rfl
  · rw [decide_eq_false h1]
    by_cases k1 : a < 0
    · rw [if_pos k1]; rfl
    rw [if_neg k1]
    by_cases k2 : a > 4096
    · rw [if_pos k2]; rfl
    rw [if_neg k2]
    by_cases k3 : b < 0
    · rw [if_pos k3]; rfl
    rw [if_neg k3, if_pos (by omega)]; rfl
theorem rightr_eq (t : TsT) (hl : wl t.2.2.2.1) (hn : t.2.2.2.1.length < 4611686018427387904) : F_annealref13_Right t = some (rightS t) := by
  obtain ⟨a, b, f, l, ⟨⟩⟩ := t
  simp only at hl hn
  have step : ∀ i, i < l.length → fits f (l.getD i 0) = true → ∀ R kn ko, st_annealref13_Right_0 R (((i : Int), ()), ((a, (b, (f, (l, ())))), ())) kn ko = kn ((((i + 1 : Nat) : Int), ()), ((a, (b, (f, (l, ())))), ())) := by
    intro i hi hf R kn ko
    unfold st_annealref13_Right_0
    dsimp only
    simp only [List.take_length, bif_dec]
    rw [if_pos (by omega), if_pos (by omega), Int.toNat_natCast, maskr_eq]
    simp only [Option.bind_some]
    rw [andNot_fits f (wl_get hl i), hf, wi64 (by omega), show ((i + 1 : Nat) : Int) = (i : Int) + 1 by omega]; rfl
  have hlim : ((lim st_annealref13_Right_0 (((0:Int), ()), ((a, (b, (f, (l, ())))), ()))).bind fun r4 => els (fun l5 => (some true)) (fun r6 => (some r6.1.1)) r4) = some (l.all (fits f)) := by
    rcases first_or (fun i => !(fits f (l.getD i 0))) l.length with h | ⟨k, h1, h2, h3⟩
    · have := lim_seq (st := st_annealref13_Right_0) (fun i => (((i : Int), ()), ((a, (b, (f, (l, ())))), ()))) (b := Sum.inl ((), ())) l.length
        (fun i hi R kn ko => step i hi (by simpa using h i hi) R kn ko)
        (fun R kn ko => by
          unfold st_annealref13_Right_0
          dsimp only
          simp only [bif_dec]
          rw [if_neg (by omega)])
      have e : lim st_annealref13_Right_0 (((0:Int), ()), ((a, (b, (f, (l, ())))), ())) = _ := this
      rw [e]
      have ha : l.all (fits f) = true := all_get.2 fun i hi => by simpa using h i hi
      rw [ha]; rfl
    · have := lim_seq (st := st_annealref13_Right_0) (fun i => (((i : Int), ()), ((a, (b, (f, (l, ())))), ()))) (b := Sum.inr ((false, ()), ())) k
        (fun i hi R kn ko => step i (by omega) (by simpa using h2 i hi) R kn ko)
        (fun R kn ko => by
          unfold st_annealref13_Right_0
          dsimp only
          simp only [bif_dec]
          rw [if_pos (by omega), if_pos (by omega), Int.toNat_natCast, maskr_eq]
          simp only [Option.bind_some]
          rw [andNot_fits f (wl_get hl k), h3]; rfl)
      have e : lim st_annealref13_Right_0 (((0:Int), ()), ((a, (b, (f, (l, ())))), ())) = _ := this
      rw [e]
      have ha : l.all (fits f) = false := by
        apply Bool.eq_false_iff.2; intro h
        have q := all_get.1 h k h1; rw [q] at h3; cases h3
      rw [ha]; rfl
  unfold F_annealref13_Right rightS
  dsimp only
  simp only [List.take_length, bif_dec, known_r, Option.bind_some, hlim, bif_ne]
  by_cases h1 : 0 ≤ a ∧ a ≤ 4096 ∧ 0 ≤ b ∧ b ≤ 4096
  · rw [if_neg (by omega), if_neg (by omega), if_neg (by omega), if_neg (by omega), decide_eq_true h1]
    have hm : IntKind.i64.wrap (a * b) = a * b := by
      have : 0 ≤ a * b := Int.mul_nonneg h1.1 h1.2.2.1
      have : a * b ≤ 4096 * 4096 := Int.mul_le_mul h1.2.1 h1.2.2.2 h1.2.2.1 (by omega)
      exact wi64 (by omega)
    rw [hm]
    cases knownS f
    · rfl
    · by_cases h2 : (l.length : Int) = a * b
      · rw [if_pos h2, decide_eq_true h2]; rfl
      · rw [if_neg h2, decide_eq_false h2]; rfl
  · rw [decide_eq_false h1]
    by_cases k1 : a < 0
    · rw [if_pos k1]; rfl
    rw [if_neg k1]
    by_cases k2 : a > 4096
    · rw [if_pos k2]; rfl
    rw [if_neg k2]
    by_cases k3 : b < 0
    · rw [if_pos k3]; rfl
    rw [if_neg k3, if_pos (by omega)]; rfl
end Go.Proofs.Ytkknnloamidaiaa.VI

namespace Go.Proofs.Ytkknnloamidaiaa.VI
set_option linter.unusedVariables false
set_option linter.unusedSimpArgs false
set_option linter.unusedSimpArgs false
set_option linter.unusedVariables false
set_option maxRecDepth 100000
set_option maxHeartbeats 4000000
def lay1 (h : Nat → Int) (n i : Nat) : List Int := (List.range i).map h ++ List.replicate (n - i) 0
theorem lay1_len (h : Nat → Int) {n i : Nat} (hi : i ≤ n) : (lay1 h n i).length = n := by unfold lay1; simp; omega
theorem lay1_set (h : Nat → Int) {n i : Nat} (hi : i < n) : (lay1 h n i).set i (h i) = lay1 h n (i + 1) := by
  unfold lay1
  rw [List.set_append, if_neg (by simp), List.range_succ, List.map_append, List.append_assoc]
  congr 1
  rw [List.length_map, List.length_range, Nat.sub_self, show n - i = (n - (i + 1)) + 1 by omega, List.replicate_succ]
  rfl
theorem lay1_zero (h : Nat → Int) (n : Nat) : lay1 h n 0 = List.replicate n 0 := by unfold lay1; simp
theorem lay1_all (h : Nat → Int) (n : Nat) : lay1 h n n = (List.range n).map h := by unfold lay1; simp
theorem range_wl {h : Nat → Int} {n : Nat} (w : ∀ i, w32 (h i)) : wl ((List.range n).map h) := by
  intro a ha; obtain ⟨i, _, rfl⟩ := List.mem_map.1 ha; exact w i
theorem eachW_eq (t b : TsT) (g : Int) (hl : wl t.2.2.2.1) (hn : t.2.2.2.1.length ≤ 1073741824) :
    F_tensor_Each__kern_Widec1 t g b = some ((t.1, t.2.1, g, (List.range t.2.2.2.1.length).map (fun i => widen b.2.2.1 (t.2.2.2.1.getD i 0)), ()), (b, ())) := by
  obtain ⟨r, c, f, l, ⟨⟩⟩ := t
  obtain ⟨b1, b2, b3, b4, ⟨⟩⟩ := b
  simp only at hl hn ⊢
  have := lim_seq (st := st_tensor_Each__kern_Widec1_0) (fun i => ((l, ((l.length : Int), ((i : Int), ()))), ((b1, (b2, (b3, (b4, ())))), (((0:Int), ((0:Int), ((0:Int), ()))), ((r, (c, (g, (l.length, ())))), (lay1 (fun i => widen b3 (l.getD i 0)) l.length i, ()))))))
    (b := ((), ((b1, (b2, (b3, (b4, ())))), (((0:Int), ((0:Int), ((0:Int), ()))), ((r, (c, (g, (l.length, ())))), (lay1 (fun i => widen b3 (l.getD i 0)) l.length l.length, ())))))) l.length
    (fun i hi R kn ko => by
      have hll := lay1_len (fun i => widen b3 (l.getD i 0)) (Nat.le_of_lt hi)
      have hls := lay1_set (fun i => widen b3 (l.getD i 0)) hi
      unfold st_tensor_Each__kern_Widec1_0 F_kern_Widec1
      dsimp only at hls ⊢
      simp only [List.take_length, bif_dec, hll, Int.toNat_natCast]
      rw [if_pos (by omega), if_pos (by omega), widen_eq b3 (wl_get hl i)]
      simp only [Option.bind_some]
      rw [if_pos (by omega), if_pos (by omega), show 0 + i * 1 = i by omega, hls, wi64 (by omega), show ((i + 1 : Nat) : Int) = (i : Int) + 1 by omega])
    (fun R kn ko => by
      unfold st_tensor_Each__kern_Widec1_0
      dsimp only
      simp only [List.take_length, bif_dec]
      rw [if_neg (by omega)])
  rw [lay1_zero] at this
  unfold F_tensor_Each__kern_Widec1
  dsimp only
  simp only [List.take_length, bif_dec, Int.toNat_natCast]
  rw [if_pos (by omega)]
  have e : lim st_tensor_Each__kern_Widec1_0 ((l, ((l.length : Int), ((0 : Int), ()))), ((b1, (b2, (b3, (b4, ())))), (((0:Int), ((0:Int), ((0:Int), ()))), ((r, (c, (g, (l.length, ())))), (List.replicate l.length 0, ()))))) = _ := this
  rw [e]
  simp only [Option.bind_some, List.take_length, List.drop_zero, lay1_all]
  have hlen : ((List.range l.length).map (fun i => widen b3 (l.getD i 0))).length = l.length := by simp
  rw [List.take_of_length_le (by omega)]
def wideL (t : TsT) : List Int := (List.range t.2.2.2.1.length).map (fun i => widen t.2.2.1 (t.2.2.2.1.getD i 0))
abbrev noT : TsT := (0, 0, 0, [], ())
theorem wide_eq (t : TsT) (hl : wl t.2.2.2.1) (hn : t.2.2.2.1.length ≤ 1073741824) :
    F_kern_Wide t = some (if rightS t then ((t.1, t.2.1, 2, wideL t, ()), 0, ()) else (noT, 21, ())) := by
  obtain ⟨r, c, f, l, ⟨⟩⟩ := t
  simp only at hl hn
  unfold F_kern_Wide
  dsimp only
  simp only [List.take_length]
  rw [right_eq (r, c, f, l, ()) hl (by simp only; omega), eachW_eq (r, c, f, l, ()) (r, c, f, l, ()) 2 hl hn]
  simp only [Option.bind_some, List.take_length]
  cases rightS (r, c, f, l, ()) <;> rfl
end Go.Proofs.Ytkknnloamidaiaa.VI
