import Derived.Test.YtcpicekmnkjceaaTSm1
namespace Go.Proofs.Ytcpicekmnkjceaa.VI
set_option linter.unusedVariables false
set_option linter.unusedSimpArgs false
set_option maxRecDepth 100000
set_option linter.unusedSimpArgs false
set_option linter.unusedVariables false
noncomputable def L34a : Lps := byL [0, 9, 10, 11, 19] 0 g34b
abbrev An := Nat × List Int × Int × Int × Int
def S34a (a : An) : St := ⟨fr 31 [(0, .i .u32 a.2.2.1), (9, .si a.1 .u8 a.2.1), (10, .i .i64 a.2.2.2.1), (11, .i .i64 a.2.2.2.2)], []⟩
def E34a (b : Int) : Ex × St := (.exit 0, ⟨fr 31 [(0, .i .u32 b)], []⟩)
def t34a {R : Type} (a : An) (kn : An → Option R) (ko : Int → Option R) : Option R := bif decide (a.2.2.2.2 < a.2.2.2.1) then bif decide (0 ≤ a.2.2.2.2 ∧ a.2.2.2.2 < (a.1 : Int)) then
    kn (a.1, a.2.1, (bsts 8 (bits .xor .u32 a.2.2.1 (IntKind.u32.wrap (a.2.1.getD a.2.2.2.2.toNat 0))).toNat : Nat), a.2.2.2.1, IntKind.i64.wrap (a.2.2.2.2 + 1)) else none else ko a.2.2.1
theorem st34a (a : An) (R : Type) (K : Ex → St → Option R) : rndk PR orn L34a 0 0 [0, 9, 10, 11] [0] (lpN f_sum32_More 0) (S34a a) K = t34a a (fun v => K .normal (S34a v)) (fun b => K (E34a b).1 (E34a b).2) := by
  obtain ⟨n, xs, v, l, i⟩ := a
  kernel_rfl
def g34a (s : St) : LTr := match s.t.getD 0 .u, s.t.getD 9 .u, s.t.getD 10 .u, s.t.getD 11 .u, s.h with
  | .i .u32 v, .si n .u8 xs, .i .i64 l, .i .i64 0, [] => .br (Nat.beq s.t.length 31 && decide (l = n) && Nat.ble n xs.length) (.ret (.exit 0) ⟨fr 31 [(0, .i .u32 (crc v.toNat (xs.take n)))], []⟩) .no
  | _, _, _, _, _ => .no
theorem crc_lt : ∀ (l : List Int) {s : Nat}, s < 4294967296 → (∀ c ∈ l, inR .u8 c) → crc s l < 4294967296
  | [], _, h, _ => h
  | c :: l, s, h, hl => by
    obtain ⟨a, rfl, ha⟩ := u8_nat (hl c (by simp))
    exact crc_lt l (bsts_lt 8 (u32_xor_lt h (by simp only [Int.toNat_natCast]; omega))) fun c hc => hl c (by simp [hc])
theorem lp34a : LoopOk PR 0 (lpN f_sum32_More 0) fun s => g34a (clean [0, 9, 10, 11] 0 s) := by
  refine loop_fin (orn_ok _) mixed (L := L34a) (d := 0) (ks2 := [0]) (loopsOk1 (a := lpN f_sum32_More 1) (f := fun s => g34b (clean [0, 9, 10, 11, 19] 0 s)) (by kernel_rfl) lp34b) (E := E34a) (fun b => by simp [E34a]) st34a
    (fun a => inR .u32 a.2.2.1 ∧ a.2.2.2.1 = a.1 ∧ a.1 ≤ a.2.1.length ∧ 0 ≤ a.2.2.2.2 ∧ a.2.2.2.2 ≤ a.1 ∧ (a.1 : Int) ≤ 9223372036854775807 ∧ ∀ c ∈ a.2.1, inR .u8 c) (fun a => (a.1 - a.2.2.2.2).toNat) (fun a => (crc a.2.2.1.toNat ((a.2.1.take a.1).drop a.2.2.2.2.toNat) : Nat)) ?_ ?_
  · rintro ⟨n, xs, v, l, i⟩ ⟨h1, h2, h3, h4, h5, h6, h7⟩
    simp only at h1 h2 h3 h4 h5 h6 h7
    obtain ⟨a, rfl, ha⟩ := u32_nat h1
    by_cases hj : i < n
    · have hx : i.toNat < xs.length := by omega
      have hxd : xs.getD i.toNat 0 = xs[i.toNat] := by simp [List.getD, hx]
      obtain ⟨c, hc, hc'⟩ := u8_nat (h7 _ (List.getElem_mem hx))
      have hw : bits .xor .u32 (a : Int) (IntKind.u32.wrap (xs.getD i.toNat 0)) = ((a ^^^ c : Nat) : Int) := by
        rw [hxd, hc, wrap_nat (k := .u32) rfl (by show c < 4294967296; omega)]
        exact u32_xor ha (by omega)
      have hlt := bsts_lt 8 (u32_xor_lt ha (show c < 4294967296 by omega))
      refine .inl ⟨(n, xs, (bsts 8 (a ^^^ c) : Nat), l, i + 1), fun R kn ko => ?_, ⟨⟨Int.natCast_nonneg _, ?_⟩, h2, h3, by simp only; omega, by simp only; omega, h6, h7⟩, by simp only; omega, ?_⟩
      · simp only [t34a, h2, hj, h4, and_self, decide_true, cond_true, hw, Int.toNat_natCast]
        rw [w64_id (by omega)]
      · show ((bsts 8 (a ^^^ c) : Nat) : Int) ≤ 4294967295; omega
      · simp only [Int.toNat_natCast]
        have hd : (xs.take n).drop i.toNat = (c : Int) :: (xs.take n).drop (i + 1).toNat := by
          rw [List.drop_eq_getElem_cons (by simp; omega), show (i + 1).toNat = i.toNat + 1 by omega]
          congr 1
          rw [List.getElem_take, hc]
        rw [hd]; simp only [crc, Int.toNat_natCast]
    · refine .inr fun R kn ko => ?_
      simp only [t34a, h2, hj, decide_false, cond_false]
      rw [List.drop_of_length_le (by simp; omega)]
      simp [crc]
  · intro s e s' h ho hh
    unfold g34a at h
    split at h
    · rename_i v n xs l h1 h2 h3 h4 h5
      obtain ⟨hl, hr⟩ := LTr.br_val h
      simp only [Bool.and_eq_true, decide_eq_true_eq] at hl
      obtain ⟨⟨hl, rfl⟩, hn⟩ := hl
      have ho2 := ok_at ho h2
      refine ⟨(n, xs, v, n, 0), wk_st hl ⟨h1, h2, h3, h4, trivial⟩ h5, ⟨ok_at ho h1, rfl, Nat.le_of_ble_eq_true hn, Int.le_refl 0, Int.natCast_nonneg n, Int.ofNat_le.2 ho2.1, ho2.2⟩, ?_⟩
      exact LTr.ret_val hr
    · cases h
def sp34 (l : List V) (h : Heap) : Tr := match l, h with
  | [.i .u32 s, .si n .u8 xs], [] => .br (Nat.ble n xs.length) (.ret (.i .u32 (4294967295 - crc (4294967295 - s.toNat) (xs.take n) : Nat)) []) .no
  | _, _ => .no
def k34 : Lps := byL [0, 9, 10, 11] 0 g34a
theorem not32 {a : Nat} (h : a < 4294967296) : bits .xor .u32 4294967295 (a : Int) = ((4294967295 - a : Nat) : Int) := by
  have := u32_xor (a := 4294967295) (b := a) (by decide) h
  rw [show ((4294967295 : Nat) : Int) = 4294967295 from rfl] at this
  rw [this]
  congr 1
  apply Nat.eq_of_testBit_eq
  intro i
  rw [show 4294967295 - a = 2 ^ 32 - (a + 1) by omega, Nat.testBit_two_pow_sub_succ (by omega), Nat.testBit_xor, show 4294967295 = 2 ^ 32 - 1 from rfl, Nat.testBit_two_pow_sub_one]
  by_cases hi : i < 32
  · simp [hi]
  · rw [Nat.testBit_lt_two_pow (Nat.lt_of_lt_of_le (show a < 2 ^ 32 from h) (Nat.pow_le_pow_right (by decide : 2 > 0) (show 32 ≤ i by omega)))]
    simp [hi]
end Go.Proofs.Ytcpicekmnkjceaa.VI
