import Derived.Test.YtcpicekmnkjceaaTSm10
namespace Go.Proofs.Ytcpicekmnkjceaa.VI
set_option linter.unusedVariables false
set_option linter.unusedSimpArgs false
set_option maxRecDepth 100000
set_option linter.unusedSimpArgs false
set_option linter.unusedVariables false
def T3 (xs : List Int) (I b : Int) : Option (V × Heap) :=
  gud (decide (0 ≤ I ∧ I.toNat + 32 ≤ 8 * ([] ++ xs.take xs.length).length ∧ 0 + xs.length = ([] ++ xs.take xs.length).length ∧ ([] ++ xs.take xs.length).length ≤ 200)) <|
  gud (Nat.ble xs.length xs.length) <| gud (Nat.ble (0 + xs.length) ((flips b.toNat I.toNat 32 0 ([] ++ xs.take xs.length)).drop 0).length) <|
  some (.b (((n0 (xs.take xs.length) : Nat) : Int) != (n0 (((flips b.toNat I.toNat 32 0 ([] ++ xs.take xs.length)).drop 0).take (0 + xs.length)) : Nat)), [])
theorem run3 (xs : List Int) (a b : Int) : runk PR (ors (ent i_anneallaw27_known [] 0 sp21) (ent i_sum32_Of [] 0 sp22)) (byL [0, 2, 7, 8, 9] 0 g3) false f_anneallaw27_SumSees (f_anneallaw27_SumSees.body.getD .skip) [.si xs.length .u8 xs, .i .u16 a, .i .u32 b] [] (fun r h => some (r, h)) =
  bif decide ((xs.length : Int) > 200) then some (.b true, []) else bif decide ((xs.length : Int) < 5) then some (.b true, []) else bif b == 0 then some (.b true, []) else
    gud (decide (0 + xs.length ≤ 1073741824)) <| bif IntKind.i64.wrap (IntKind.i64.wrap (8 * (xs.length : Int)) - 31) == 0 then none else T3 xs ((IntKind.i64.wrap a).tmod (IntKind.i64.wrap (IntKind.i64.wrap (8 * (xs.length : Int)) - 31))) b := by kernel_rfl
theorem plain3 (xs : List Int) (hb : ∀ c ∈ xs, inR .u8 c) (h200 : xs.length ≤ 200) (i b : Nat) (hi : i + 32 ≤ 8 * xs.length) (hbb : b < 4294967296) (hb0 : b ≠ 0) : T3 xs i b = some (.b true, []) := by
  have ht : xs.take xs.length = xs := List.take_length
  obtain ⟨f1, f2⟩ := flips_in b i 32 0 xs hb (by omega)
  have hc := flips_crc b i 4294967295 32 0 xs hb (by omega)
  have htf : (flips b i 32 0 xs).take xs.length = flips b i 32 0 xs := List.take_of_length_le (by omega)
  rw [Nat.pow_zero, Nat.div_one, Nat.mul_one, Nat.mod_eq_of_lt (show b < 2 ^ 32 from hbb)] at hc
  have hX := crc_lt xs (show 4294967295 < 4294967296 by decide) hb
  have hF := crc_lt (flips b i 32 0 xs) (show 4294967295 < 4294967296 by decide) f1
  have hne : n0 xs ≠ n0 (flips b i 32 0 xs) := by
    unfold n0
    intro h
    have he : crc 4294967295 xs = crc 4294967295 (flips b i 32 0 xs) := by omega
    have hx := xor_self_l (crc 4294967295 xs) (bsts (8 * xs.length - i) b)
    rw [← hc, ← he, Nat.xor_self] at hx
    exact bsts_ne _ hbb hb0 hx.symm
  unfold T3
  simp only [List.nil_append, Nat.zero_add, Int.toNat_natCast, ht, List.drop_zero, htf]
  rw [decide_eq_true (show 0 ≤ (i : Int) ∧ i + 32 ≤ 8 * xs.length ∧ True ∧ xs.length ≤ 200 from ⟨by omega, hi, trivial, h200⟩), Nat.ble_eq_true_of_le (Nat.le_refl xs.length), Nat.ble_eq_true_of_le (show xs.length ≤ (flips b i 32 0 xs).length by omega)]
  simp only [gud, cond_true]
  have : (((n0 xs : Nat) : Int) != (n0 (flips b i 32 0 xs) : Nat)) = true := by simp; omega
  rw [this]
theorem call3 : ∀ l, args [.ints .u8, .i .u16, .i .u32] l → oks l → CallOk PR i_anneallaw27_SumSees l [] fun r _ => r = .b true := by
  rintro l ⟨c0, l, ⟨xs, hlx, hxs, h0⟩, ⟨c1, l, ⟨a, ha, h1⟩, ⟨c2, l, ⟨b, hb, h2⟩, rfl, rfl⟩, rfl⟩, rfl⟩ ho
  injection h0 with h0; injection h1 with h1; injection h2 with h2; subst h0 h1 h2
  refine (run_fn (hc := []) (kp := false) (L := byL [0, 2, 7, 8, 9] 0 g3) (ors_ok ok21 ok22) mixed p_anneallaw27_SumSees (by kernel_rfl) (by kernel_rfl) (loopsOk1 (a := lpN f_anneallaw27_SumSees 0) (f := fun s => g3 (clean [0, 2, 7, 8, 9] 0 s)) (by kernel_rfl) lp3) (r := .b true) (h' := []) fun _ _ => (run3 xs a b).trans ?_).mono fun q _ h => h.1
  by_cases h200 : (xs.length : Int) > 200
  · simp only [h200, decide_true, cond_true]
  by_cases h5 : (xs.length : Int) < 5
  · simp only [h200, h5, decide_true, decide_false, cond_true, cond_false]
  obtain ⟨b, rfl, hb'⟩ := u32_nat hb
  by_cases hb0 : b = 0
  · subst hb0
    simp only [h200, h5, decide_true, decide_false, cond_true, cond_false]
    rfl
  have ha : 0 ≤ a ∧ a ≤ 65535 := ha
  obtain ⟨a, rfl⟩ := Int.eq_ofNat_of_zero_le ha.1
  have w0 : IntKind.i64.wrap (8 * (xs.length : Int)) = 8 * (xs.length : Int) := w64_id (by omega)
  have w1 : IntKind.i64.wrap (8 * (xs.length : Int) - 31) = ((8 * xs.length - 31 : Nat) : Int) := by rw [w64_id (by omega)]; omega
  have w2 : ((a : Int)).tmod ((8 * xs.length - 31 : Nat) : Int) = ((a % (8 * xs.length - 31) : Nat) : Int) := by rw [Int.tmod_eq_emod_of_nonneg (by omega)]; rfl
  have hne : (((8 * xs.length - 31 : Nat) : Int) == 0) = false := by simp; omega
  have hb1 : ((b : Int) == 0) = false := by simpa using hb0
  have hmod := Nat.mod_lt a (show 8 * xs.length - 31 > 0 by omega)
  rw [w0, w1, w64_id (n := (a : Int)) (by omega), w2, hne, hb1, decide_eq_true (show 0 + xs.length ≤ 1073741824 by omega)]
  simp only [h200, h5, decide_false, cond_false, gud, cond_true]
  exact plain3 xs hxs (by omega) _ _ (by omega) hb' hb0
end Go.Proofs.Ytcpicekmnkjceaa.VI
