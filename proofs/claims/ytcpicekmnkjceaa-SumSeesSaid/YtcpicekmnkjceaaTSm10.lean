import Derived.Test.YtcpicekmnkjceaaTSm9
namespace Go.Proofs.Ytcpicekmnkjceaa.VI
set_option linter.unusedVariables false
set_option linter.unusedSimpArgs false
set_option maxRecDepth 100000
set_option linter.unusedSimpArgs false
set_option linter.unusedVariables false
def flip (ys : List Int) (p : Nat) : List Int := ys.set (p / 8) (((ys.getD (p / 8) 0).toNat ^^^ 2 ^ (p % 8) : Nat) : Int)
def flips (b i : Nat) : Nat → Nat → List Int → List Int
  | 0, _, ys => ys
  | n + 1, k, ys => flips b i n (k + 1) (if b / 2 ^ k % 2 = 1 then flip ys (i + k) else ys)
theorem crc_xor (l : List Int) (a b : Nat) : crc (a ^^^ b) l = crc a l ^^^ bsts (8 * l.length) b := by
  rw [crc_lin l (a ^^^ b), crc_lin l a, bsts_xor, Nat.xor_assoc, Nat.xor_assoc, Nat.xor_comm (bsts _ b)]
theorem crc_set : ∀ (l : List Int) (q x s : Nat), q < l.length → (∀ c ∈ l, inR .u8 c) → crc s (l.set q ((((l.getD q 0).toNat ^^^ x : Nat)) : Int)) = crc s l ^^^ bsts (8 * (l.length - q)) x
  | c :: l, 0, x, s, _, h => by
    simp only [List.set_cons_zero, crc, List.getD_cons_zero, Int.toNat_natCast, List.length_cons, Nat.sub_zero]
    rw [← Nat.xor_assoc, bsts_xor, crc_xor, ← bsts_add, show 8 + 8 * l.length = 8 * (l.length + 1) by omega]
  | c :: l, q + 1, x, s, hq, h => by
    simp only [List.length_cons] at hq
    simp only [List.set_cons_succ, crc, List.getD_cons_succ, List.length_cons]
    rw [crc_set l q x _ (by omega) fun c hc => h c (by simp [hc]), show l.length + 1 - (q + 1) = l.length - q by omega]
theorem bst_two (j : Nat) : bst (2 ^ (j + 1)) = 2 ^ j := by
  unfold bst
  rw [if_neg (by rw [Nat.pow_succ]; omega), Nat.xor_zero, Nat.pow_succ, Nat.mul_div_cancel _ (by decide)]
theorem bsts_two : ∀ (n j : Nat), bsts n (2 ^ (n + j)) = 2 ^ j
  | 0, j => by rw [Nat.zero_add]; rfl
  | n + 1, j => by
    simp only [bsts]
    rw [show n + 1 + j = (n + j) + 1 by omega, bst_two]
    exact bsts_two n j
theorem flip_in {ys : List Int} (h : ∀ c ∈ ys, inR .u8 c) {p : Nat} (hp : p < 8 * ys.length) : ∀ c ∈ flip ys p, inR .u8 c := by
  intro c hc
  rcases List.mem_or_eq_of_mem_set hc with e | e
  · exact h c e
  · subst e
    have hx : p / 8 < ys.length := by omega
    obtain ⟨d, hd, hd'⟩ := u8_nat (h _ (List.getElem_mem hx))
    have hg : ys.getD (p / 8) 0 = (d : Int) := by rw [List.getD_eq_getElem?_getD, List.getElem?_eq_getElem hx, hd]; rfl
    have : (d ^^^ 2 ^ (p % 8)) < 2 ^ 8 := Nat.xor_lt_two_pow hd' (Nat.pow_lt_pow_right (by decide) (by omega))
    rw [hg, Int.toNat_natCast]
    exact ⟨Int.natCast_nonneg _, by show ((d ^^^ 2 ^ (p % 8) : Nat) : Int) ≤ 255; omega⟩
theorem flip_len (ys : List Int) (p : Nat) : (flip ys p).length = ys.length := by unfold flip; simp
theorem flip_crc {ys : List Int} (h : ∀ c ∈ ys, inR .u8 c) {i k : Nat} (hp : i + k < 8 * ys.length) (s : Nat) (hk : i + k < 8 * ys.length - i ∨ True) : crc s (flip ys (i + k)) = crc s ys ^^^ bsts (8 * ys.length - (i + k)) 1 := by
  unfold flip
  rw [crc_set ys _ _ s (by omega) h]
  congr 1
  have e : 8 * (ys.length - (i + k) / 8) = (i + k) % 8 + (8 * ys.length - (i + k)) := by omega
  rw [e, bsts_add]
  congr 1
  exact bsts_two ((i + k) % 8) 0
theorem flips_crc (b i s : Nat) : ∀ (n k : Nat) (ys : List Int), (∀ c ∈ ys, inR .u8 c) → i + (k + n) ≤ 8 * ys.length → crc s (flips b i n k ys) = crc s ys ^^^ bsts (8 * ys.length - i) (b / 2 ^ k % 2 ^ n * 2 ^ k)
  | 0, k, ys, _, _ => by simp [flips, Nat.mod_one, bsts_zero]
  | n + 1, k, ys, h, hk => by
    have hsplit : b / 2 ^ k % 2 ^ (n + 1) * 2 ^ k = (b / 2 ^ k % 2) * 2 ^ k ^^^ (b / 2 ^ (k + 1) % 2 ^ n) * 2 ^ (k + 1) := by
      have hz := xor_two (b / 2 ^ (k + 1) % 2 ^ n) (b / 2 ^ k % 2) (by omega)
      have h2 : 2 * (b / 2 ^ (k + 1) % 2 ^ n) + b / 2 ^ k % 2 = b / 2 ^ k % 2 ^ (n + 1) := by
        rw [Nat.pow_succ 2 k, ← Nat.div_div_eq_div_mul, Nat.pow_succ 2 n, Nat.mul_comm (2 ^ n) 2, Nat.mod_mul]
        omega
      rw [h2] at hz
      have : (2 * (b / 2 ^ (k + 1) % 2 ^ n) ^^^ b / 2 ^ k % 2) <<< k = (b / 2 ^ k % 2 ^ (n + 1)) <<< k := by rw [hz]
      rw [Nat.shiftLeft_xor_distrib] at this
      simp only [Nat.shiftLeft_eq] at this
      rw [← this, Nat.xor_comm]
      congr 1
      rw [Nat.pow_succ 2 k]; ac_rfl
    simp only [flips]
    by_cases hb : b / 2 ^ k % 2 = 1
    · rw [if_pos hb, flips_crc b i s n (k + 1) _ (flip_in h (by omega)) (by rw [flip_len]; omega), flip_len, flip_crc h (by omega) s (.inr trivial), hsplit, hb, Nat.one_mul, bsts_xor, ← Nat.xor_assoc]
      congr 2
      have : 8 * ys.length - i = k + (8 * ys.length - (i + k)) := by omega
      rw [this, bsts_add, show bsts k (2 ^ k) = 1 from bsts_two k 0]
    · rw [if_neg hb, flips_crc b i s n (k + 1) ys h (by omega), hsplit, show b / 2 ^ k % 2 = 0 by omega, Nat.zero_mul, Nat.zero_xor]
theorem flips_in (b i : Nat) : ∀ (n k : Nat) (ys : List Int), (∀ c ∈ ys, inR .u8 c) → i + (k + n) ≤ 8 * ys.length → (∀ c ∈ flips b i n k ys, inR .u8 c) ∧ (flips b i n k ys).length = ys.length
  | 0, k, ys, h, _ => ⟨h, rfl⟩
  | n + 1, k, ys, h, hk => by
    simp only [flips]
    split
    · obtain ⟨h1, h2⟩ := flips_in b i n (k + 1) (flip ys (i + k)) (flip_in h (by omega)) (by rw [flip_len]; omega)
      exact ⟨h1, h2.trans (flip_len _ _)⟩
    · exact flips_in b i n (k + 1) ys h (by omega)
theorem bst_ne {s : Nat} (h : s < 4294967296) (h0 : s ≠ 0) : bst s ≠ 0 := by
  unfold bst
  split
  · intro hz
    have : s / 2 = poly := by
      have := congrArg (· ^^^ poly) hz
      simp only [Nat.xor_assoc, Nat.xor_self, Nat.xor_zero, Nat.zero_xor] at this
      exact this
    unfold poly at this
    omega
  · rw [Nat.xor_zero]; omega
theorem bsts_ne : ∀ (n : Nat) {s : Nat}, s < 4294967296 → s ≠ 0 → bsts n s ≠ 0
  | 0, _, _, h0 => h0
  | n + 1, s, h, h0 => bsts_ne n (bst_lt h) (bst_ne h h0)
abbrev As := (Nat × List Int × Nat × Nat × Int × Int) × List Int × Int
def S3 (a : As) : St := ⟨fr 61 [(0, .si a.1.1 .u8 a.1.2.1), (2, .i .u32 a.1.2.2.2.2.1), (7, .own 0 1 0 a.1.2.2.1 1), (8, .i .i64 a.1.2.2.2.2.2), (9, .i .i64 a.2.2)], [⟨1, a.1.2.2.2.1, .ints .u8 a.2.1, true⟩]⟩
def E3 (b : (Nat × List Int × Nat × Nat × Int × Int) × List Int) : Ex × St := (.exit 0, ⟨fr 61 [(0, .si b.1.1 .u8 b.1.2.1), (7, .own 0 1 0 b.1.2.2.1 1)], [⟨1, b.1.2.2.2.1, .ints .u8 b.2, true⟩]⟩)
def q3 (i k : Int) : Int := IntKind.i64.wrap ((IntKind.i64.wrap (i + k)).tdiv 8)
def r3 (i k : Int) : Int := (IntKind.i64.wrap (i + k)).tmod 8
def t3 {R : Type} (a : As) (kn : As → Option R) (ko : (Nat × List Int × Nat × Nat × Int × Int) × List Int → Option R) : Option R :=
  bif decide (a.2.2 < 32) then
    bif decide (0 ≤ a.2.2) then
      bif bits .and .u32 (a.1.2.2.2.2.1 / 2 ^ min a.2.2.toNat 32) 1 == 1 then
        gud (decide (0 ≤ q3 a.1.2.2.2.2.2 a.2.2 ∧ q3 a.1.2.2.2.2.2 a.2.2 < (a.1.2.2.1 : Int))) <| gud (decide (0 + (q3 a.1.2.2.2.2.2 a.2.2).toNat * 1 < a.2.1.length)) <| gud (decide (0 ≤ r3 a.1.2.2.2.2.2 a.2.2)) <|
        gud (decide (0 ≤ q3 a.1.2.2.2.2.2 a.2.2 ∧ q3 a.1.2.2.2.2.2 a.2.2 < (a.1.2.2.1 : Int))) <| gud (decide (0 + (q3 a.1.2.2.2.2.2 a.2.2).toNat * 1 < a.2.1.length)) <|
        kn (a.1, a.2.1.set (0 + (q3 a.1.2.2.2.2.2 a.2.2).toNat * 1) (bits .xor .u8 (a.2.1.getD (0 + (q3 a.1.2.2.2.2.2 a.2.2).toNat * 1) 0) (IntKind.u8.wrap (1 * 2 ^ min (r3 a.1.2.2.2.2.2 a.2.2).toNat IntKind.u8.bits))), IntKind.i64.wrap (a.2.2 + 1))
      else kn (a.1, a.2.1, IntKind.i64.wrap (a.2.2 + 1))
    else none
  else ko (a.1, a.2.1)
theorem st3 (a : As) (R : Type) (K : Ex → St → Option R) : rndk PR orn L0 0 0 [0, 2, 7, 8, 9] [0, 7] (lpN f_anneallaw27_SumSees 0) (S3 a) K = t3 a (fun v => K .normal (S3 v)) (fun b => K (E3 b).1 (E3 b).2) := by
  obtain ⟨⟨n, xs, m, e, b, i⟩, ys, k⟩ := a
  kernel_rfl
def g3 (s : St) : LTr := match s.t.getD 0 .u, s.t.getD 2 .u, s.t.getD 7 .u, s.t.getD 8 .u, s.t.getD 9 .u, s.h with
  | .si n .u8 xs, .i .u32 b, .own 0 1 0 m 1, .i .i64 i, .i .i64 0, [⟨1, e, .ints .u8 ys, true⟩] => .br (Nat.beq s.t.length 61 && decide (0 ≤ i ∧ i.toNat + 32 ≤ 8 * ys.length ∧ m = ys.length ∧ ys.length ≤ 200)) (.ret (.exit 0) ⟨fr 61 [(0, .si n .u8 xs), (7, .own 0 1 0 m 1)], [⟨1, e, .ints .u8 (flips b.toNat i.toNat 32 0 ys), true⟩]⟩) .no
  | _, _, _, _, _, _ => .no
theorem lp3 : LoopOk PR 0 (lpN f_anneallaw27_SumSees 0) fun s => g3 (clean [0, 2, 7, 8, 9] 0 s) := by
  refine loop_fin (orn_ok _) mixed (L := L0) (d := 0) (ks2 := [0, 7]) (loopsOk0 (by kernel_rfl)) (E := E3) (fun b => by simp [E3]) st3
    (fun a => inR .u32 a.1.2.2.2.2.1 ∧ 0 ≤ a.1.2.2.2.2.2 ∧ a.1.2.2.2.2.2.toNat + 32 ≤ 8 * a.2.1.length ∧ a.1.2.2.1 = a.2.1.length ∧ a.2.1.length ≤ 200 ∧ 0 ≤ a.2.2 ∧ a.2.2 ≤ 32 ∧ ∀ c ∈ a.2.1, inR .u8 c) (fun a => (32 - a.2.2).toNat) (fun a => (a.1, flips a.1.2.2.2.2.1.toNat a.1.2.2.2.2.2.toNat (32 - a.2.2).toNat a.2.2.toNat a.2.1)) ?_ ?_
  · rintro ⟨⟨n, xs, m, e, b, i⟩, ys, k⟩ ⟨h1, h2, h3, h4, h5, h6, h7, h8⟩
    simp only at h1 h2 h3 h4 h5 h6 h7 h8
    subst h4
    obtain ⟨b, rfl, hb⟩ := u32_nat h1
    obtain ⟨i, rfl⟩ := Int.eq_ofNat_of_zero_le h2
    obtain ⟨k, rfl⟩ := Int.eq_ofNat_of_zero_le h6
    simp only [Int.toNat_natCast] at h3
    by_cases hk : k < 32
    · have hlt : decide ((k : Int) < 32) = true := decide_eq_true (by omega)
      have hs : (32 - (k : Int)).toNat = (32 - ((k : Int) + 1)).toNat + 1 := by omega
      have hk1 : ((k : Int) + 1).toNat = k + 1 := by omega
      have hw := w64_id (n := (k : Int) + 1) (by omega)
      have e0 : (b : Int) / 2 ^ min k 32 = ((b / 2 ^ k : Nat) : Int) := by
        rw [show min k 32 = k by omega]; push_cast; rfl
      have hbk : b / 2 ^ k < 4294967296 := Nat.lt_of_le_of_lt (Nat.div_le_self _ _) hb
      have hq : q3 (i : Int) (k : Int) = (((i + k) / 8 : Nat) : Int) := by
        unfold q3
        rw [w64_id (n := (i : Int) + (k : Int)) (by omega), Int.tdiv_eq_ediv_of_nonneg (by omega)]
        rw [show ((i : Int) + (k : Int)) / 8 = (((i + k) / 8 : Nat) : Int) by omega]
        exact w64_id (by omega)
      have hr : r3 (i : Int) (k : Int) = (((i + k) % 8 : Nat) : Int) := by
        unfold r3
        rw [w64_id (n := (i : Int) + (k : Int)) (by omega), Int.tmod_eq_emod_of_nonneg (by omega)]
        omega
      rcases Nat.mod_two_eq_zero_or_one (b / 2 ^ k) with hm | hm
      · refine .inl ⟨((n, xs, ys.length, e, (b : Int), (i : Int)), ys, (k : Int) + 1), fun R kn ko => ?_, ⟨h1, h2, by simpa using h3, rfl, h5, by simp only; omega, by simp only; omega, h8⟩, by simp only; omega, ?_⟩
        · simp only [t3, hlt, cond_true, decide_true, Int.natCast_nonneg, Int.toNat_natCast, e0, u32_and1 hbk, hm, hw]
          rfl
        · simp only [Int.toNat_natCast, hs, hk1, flips, hm]
          rfl
      · refine .inl ⟨((n, xs, ys.length, e, (b : Int), (i : Int)), flip ys (i + k), (k : Int) + 1), fun R kn ko => ?_, ⟨h1, h2, by simp only [Int.toNat_natCast, flip_len]; exact h3, (flip_len _ _).symm, by simp only [flip_len]; exact h5, by simp only; omega, by simp only; omega, flip_in h8 (by omega)⟩, by simp only; omega, ?_⟩
        · have hx : (i + k) / 8 < ys.length := by omega
          obtain ⟨d, hd, hd'⟩ := u8_nat (h8 _ (List.getElem_mem hx))
          have hg : ys.getD ((i + k) / 8) 0 = (d : Int) := by rw [List.getD_eq_getElem?_getD, List.getElem?_eq_getElem hx, hd]; rfl
          have hp : 2 ^ ((i + k) % 8) < 256 := Nat.lt_of_lt_of_le (Nat.pow_lt_pow_right (by decide) (show (i + k) % 8 < 8 by omega)) (by decide)
          have e1 : IntKind.u8.wrap (1 * 2 ^ min ((i + k) % 8) IntKind.u8.bits) = ((2 ^ ((i + k) % 8) : Nat) : Int) := by
            rw [show min ((i + k) % 8) IntKind.u8.bits = (i + k) % 8 from Nat.min_eq_left (show (i + k) % 8 ≤ 8 by omega), Int.one_mul, show ((2 : Int) ^ ((i + k) % 8)) = ((2 ^ ((i + k) % 8) : Nat) : Int) by push_cast; rfl]
            exact wrap_nat rfl hp
          have e2 : bits .xor .u8 (d : Int) ((2 ^ ((i + k) % 8) : Nat) : Int) = ((d ^^^ 2 ^ ((i + k) % 8) : Nat) : Int) := bits_xor rfl hd' hp
          have d1 : (((i + k) / 8 : Nat) : Int) < (ys.length : Int) := by omega
          have d2 : (((1 : Nat) : Int) == 1) = true := rfl
          simp only [t3, hlt, cond_true, decide_true, Int.natCast_nonneg, Int.toNat_natCast, e0, u32_and1 hbk, hm, hw, hq, hr, d1, d2, true_and, gud, show 0 + (i + k) / 8 * 1 = (i + k) / 8 by omega, hx, hg, e1, e2]
          unfold flip
          rw [hg, Int.toNat_natCast]
        · simp only [Int.toNat_natCast, hs, hk1, flips, hm, if_true]
    · refine .inr fun R kn ko => ?_
      have : k = 32 := by omega
      subst this
      have e1 : (32 - ((32 : Nat) : Int)).toNat = 0 := rfl
      have e2 : decide (((32 : Nat) : Int) < 32) = false := rfl
      simp only [e1, flips, t3, e2, cond_false]
  · intro s e s' h ho hh
    unfold g3 at h
    split at h
    · rename_i n xs b m i e0 ys h1 h2 h3 h4 h5 h6
      obtain ⟨hl, hr⟩ := LTr.br_val h
      simp only [Bool.and_eq_true, decide_eq_true_eq] at hl
      obtain ⟨hl, k1, k2, k3, k4⟩ := hl
      have hys : ∀ x ∈ ys, inR .u8 x := hh ⟨1, e0, .ints .u8 ys, true⟩ (by rw [h6]; exact List.mem_cons_self)
      exact ⟨((n, xs, m, e0, b, i), ys, 0), wk_st hl ⟨h1, h2, h3, h4, h5, trivial⟩ h6, ⟨ok_at ho h2, k1, k2, k3, k4, Int.le_refl 0, show (0:Int) ≤ 32 by decide, hys⟩, by
        have e1 : (32 - (0 : Int)).toNat = 32 := rfl
        have e2 : (0 : Int).toNat = 0 := rfl
        simp only [E3, e1, e2]
        exact LTr.ret_val hr⟩
    · cases h
end Go.Proofs.Ytcpicekmnkjceaa.VI
