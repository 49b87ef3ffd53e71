import Derived.Test.YtcpicekmnkjceaaTSmL
namespace Go.Proofs.Ytcpicekmnkjceaa.VI
set_option linter.unusedVariables false
set_option linter.unusedSimpArgs false
set_option maxRecDepth 100000
set_option linter.unusedSimpArgs false
set_option linter.unusedVariables false
def nc (s : Nat) (l : List Int) : Nat := 4294967295 - crc (4294967295 - s) l
def nz (s : Nat) (n : Int) : Nat := 4294967295 - bsts (8 * (cl n).toNat) (4294967295 - s)
def n0 (l : List Int) : Nat := 4294967295 - crc 4294967295 l
noncomputable def O9 : Orc := ors (ent i_anneallaw27_known [] 0 sp21) (ors (ent i_annealref24_Sum [] 0 sp22) (ors (ent i_sum32_Of [] 0 sp22) (ors (ent i_sum32_More [] 0 sp34) (ors (ent i_sum32_Join [] 0 sp35) (ent i_sum32_Zeros [] 0 sp32)))))
theorem okO9 : OrcOk PR O9 := ors_ok ok21 (ors_ok ok33 (ors_ok ok22 (ors_ok ok34 (ors_ok ok35 ok32))))
def T9 (xs : List Int) (I M k : Int) : Option (V × Heap) :=
  gud (Nat.ble xs.length xs.length) <| gud (decide ((0 : Int) ≤ 0 ∧ 0 ≤ I ∧ I ≤ (xs.length : Int))) <| gud (Nat.ble (I.toNat - (0 : Int).toNat) ((xs.drop (0 : Int).toNat).take (I.toNat - (0 : Int).toNat)).length) <|
  gud (decide (0 ≤ I ∧ I ≤ (xs.length : Int) ∧ (xs.length : Int) ≤ (xs.length : Int))) <| gud (Nat.ble ((xs.length : Int).toNat - I.toNat) ((xs.drop I.toNat).take ((xs.length : Int).toNat - I.toNat)).length) <|
  gud (decide (0 + xs.length ≤ 1073741824)) <| gud (decide (0 ≤ M ∧ M ≤ 1073741824)) <| gud (decide (0 + xs.length + M.toNat ≤ 1073741824)) <|
  gud (Nat.ble (0 + xs.length + M.toNat) (((([] ++ xs.take xs.length).take (0 + xs.length)) ++ List.replicate M.toNat 0).drop 0).length) <| gud (Nat.ble xs.length xs.length) <|
  aud (((n0 (xs.take xs.length) : Nat) : Int) == (n0 (xs.take xs.length) : Nat)) <|
  gud (decide (0 ≤ I ∧ I ≤ (xs.length : Int) ∧ (xs.length : Int) ≤ (xs.length : Int))) <| gud (Nat.ble ((xs.length : Int).toNat - I.toNat) ((xs.drop I.toNat).take ((xs.length : Int).toNat - I.toNat)).length) <|
  aud (((nc ((n0 (((xs.drop (0 : Int).toNat).take (I.toNat - (0 : Int).toNat)).take (I.toNat - (0 : Int).toNat)) : Nat) : Int).toNat (((xs.drop I.toNat).take ((xs.length : Int).toNat - I.toNat)).take ((xs.length : Int).toNat - I.toNat)) : Nat) : Int) == (n0 (xs.take xs.length) : Nat)) <|
  aud (((bsts (8 * (cl (IntKind.i64.wrap ((xs.length : Int) - I))).toNat) ((n0 (((xs.drop (0 : Int).toNat).take (I.toNat - (0 : Int).toNat)).take (I.toNat - (0 : Int).toNat)) : Nat) : Int).toNat ^^^ ((n0 (((xs.drop I.toNat).take ((xs.length : Int).toNat - I.toNat)).take ((xs.length : Int).toNat - I.toNat)) : Nat) : Int).toNat : Nat) : Int) == (n0 (xs.take xs.length) : Nat)) <|
  aud (((nz ((n0 (xs.take xs.length) : Nat) : Int).toNat M : Nat) : Int) == (n0 ((((([] ++ xs.take xs.length).take (0 + xs.length)) ++ List.replicate M.toNat 0).drop 0).take (0 + xs.length + M.toNat)) : Nat)) <|
  aud (((nz ((n0 (xs.take xs.length) : Nat) : Int).toNat (IntKind.i64.wrap (-1 - bits .and .i64 k 255)) : Nat) : Int) == (n0 (xs.take xs.length) : Nat)) <|
  some (.b (((nc ((n0 (xs.take xs.length) : Nat) : Int).toNat [] : Nat) : Int) == (n0 (xs.take xs.length) : Nat)), [])
theorem run9 (xs : List Int) (a n k : Int) : runk PR O9 L0 false f_anneallaw27_SumTells32 (f_anneallaw27_SumTells32.body.getD .skip) [.si xs.length .u8 xs, .i .u8 a, .i .u16 n, .i .i64 k] [] (fun r h => some (r, h)) =
  bif decide ((xs.length : Int) > 200) then some (.b true, []) else bif IntKind.i64.wrap ((xs.length : Int) + 1) == 0 then none else
    T9 xs ((IntKind.i64.wrap a).tmod (IntKind.i64.wrap ((xs.length : Int) + 1))) (IntKind.i64.wrap (n.tmod 300)) k := by kernel_rfl
theorem crc_app : ∀ (a b : List Int) (s : Nat), crc s (a ++ b) = crc (crc s a) b
  | [], _, _ => rfl
  | c :: a, b, s => by simp only [List.cons_append, crc, crc_app a b]
theorem xor_self_l (a b : Nat) : a ^^^ (a ^^^ b) = b := by rw [← Nat.xor_assoc, Nat.xor_self, Nat.zero_xor]
theorem crc_lin : ∀ (b : List Int) (s : Nat), crc s b = bsts (8 * b.length) s ^^^ crc 0 b
  | [], s => by simp [crc, bsts]
  | c :: b, s => by
    simp only [crc]
    rw [crc_lin b (bsts 8 (s ^^^ c.toNat)), crc_lin b (bsts 8 (0 ^^^ c.toNat)), bsts_xor, bsts_xor, ← bsts_add, Nat.zero_xor, List.length_cons, show 8 + 8 * b.length = 8 * (b.length + 1) by omega, Nat.xor_assoc]
theorem crc_zeros : ∀ (m s : Nat), crc s (List.replicate m 0) = bsts (8 * m) s
  | 0, s => rfl
  | m + 1, s => by
    rw [List.replicate_succ]
    simp only [crc]
    rw [crc_zeros m, show (0 : Int).toNat = 0 from rfl, Nat.xor_zero, ← bsts_add, show 8 + 8 * m = 8 * (m + 1) by omega]
theorem sub_xor {x : Nat} (h : x < 4294967296) : 4294967295 - x = 4294967295 ^^^ x := by
  have := not32 h
  have h2 := u32_xor (a := 4294967295) (b := x) (by decide) h
  rw [show ((4294967295 : Nat) : Int) = 4294967295 from rfl, this] at h2
  exact Int.ofNat.inj h2
theorem and255 (k : Int) : 0 ≤ bits .and .i64 k 255 ∧ bits .and .i64 k 255 ≤ 255 := by
  unfold bits
  simp only
  have h : (BitVec.ofInt IntKind.i64.bits k &&& BitVec.ofInt IntKind.i64.bits 255).toNat ≤ 255 := by
    rw [BitVec.toNat_and]
    exact Nat.le_trans Nat.and_le_right (by decide)
  rw [w64_id (by omega)]
  omega
theorem plain9 (xs : List Int) (hb : ∀ c ∈ xs, inR .u8 c) (h200 : xs.length ≤ 200) (j m : Nat) (hj : j ≤ xs.length) (hm : m < 300) (k : Int) : T9 xs j m k = some (.b true, []) := by
  have hk := and255 k
  have e0 : (0 : Int).toNat = 0 := rfl
  have ht : xs.take xs.length = xs := List.take_length
  have hl : ∀ l, (∀ c ∈ l, inR .u8 c) → ∀ s, s < 4294967296 → crc s l < 4294967296 := fun l h s hs => crc_lt l hs h
  have hA := hl (xs.take j) (fun c hc => hb c (List.mem_of_mem_take hc)) 4294967295 (by decide)
  have hX := hl xs hb 4294967295 (by decide)
  have hB := hl (xs.drop j) (fun c hc => hb c (List.mem_of_mem_drop hc)) 4294967295 (by decide)
  have hd : (xs.drop j).take (xs.length - j) = xs.drop j := List.take_of_length_le (by simp)
  have hta : (xs.take j).take j = xs.take j := List.take_of_length_le (by simp; omega)
  have hlen : (xs.take j).length = j := by simp; omega
  have happ : (([] ++ xs).take (0 + xs.length) ++ List.replicate m 0).take (0 + xs.length + m) = xs ++ List.replicate m 0 := by
    rw [List.nil_append, Nat.zero_add, ht, List.take_of_length_le (by simp)]
  have c1 : nc (n0 (xs.take j)) (xs.drop j) = n0 xs := by
    unfold nc n0
    rw [show 4294967295 - (4294967295 - crc 4294967295 (xs.take j)) = crc 4294967295 (xs.take j) by omega, ← crc_app, List.take_append_drop]
  have c2 : bsts (8 * (xs.length - j)) (n0 (xs.take j)) ^^^ n0 (xs.drop j) = n0 xs := by
    have hx : crc 4294967295 xs = crc (crc 4294967295 (xs.take j)) (xs.drop j) := by rw [← crc_app, List.take_append_drop]
    have hdl : (xs.drop j).length = xs.length - j := by simp
    unfold n0
    rw [sub_xor hA, sub_xor hB, sub_xor hX, hx, crc_lin (xs.drop j) (crc 4294967295 (xs.take j)), crc_lin (xs.drop j) 4294967295, bsts_xor, hdl]
    generalize bsts (8 * (xs.length - j)) 4294967295 = P
    generalize bsts (8 * (xs.length - j)) (crc 4294967295 (xs.take j)) = Q
    generalize crc 0 (xs.drop j) = R
    rw [Nat.xor_comm P Q, Nat.xor_assoc Q P, ← Nat.xor_assoc P, Nat.xor_comm P 4294967295, Nat.xor_assoc 4294967295 P, xor_self_l, ← Nat.xor_assoc, Nat.xor_comm Q, Nat.xor_assoc]
  have c3 : nz (n0 xs) (m : Int) = n0 (xs ++ List.replicate m 0) := by
    unfold nz n0
    rw [show 4294967295 - (4294967295 - crc 4294967295 xs) = crc 4294967295 xs by omega, crc_app, crc_zeros, cl_id (by omega), Int.toNat_natCast]
  have c4 : nz (n0 xs) (-1 - bits .and .i64 k 255) = n0 xs := by
    unfold nz n0
    rw [cl_neg (by omega)]
    show 4294967295 - bsts 0 _ = _
    simp only [bsts]; omega
  have c5 : nc (n0 xs) [] = n0 xs := by unfold nc n0; simp only [crc]; omega
  unfold T9
  simp only [e0, Int.toNat_natCast, Nat.sub_zero, List.drop_zero, ht, hd, hta, c1, c5, happ]
  rw [w64_id (n := -1 - bits .and .i64 k 255) (by omega), w64_id (n := (xs.length : Int) - (j : Int)) (by omega), cl_id (n := (xs.length : Int) - (j : Int)) (by omega), show ((xs.length : Int) - (j : Int)).toNat = xs.length - j by omega]
  simp only [c2, c3, c4, beq_self_eq_true]
  have b1 : Nat.ble j (xs.take j).length = true := Nat.ble_eq_true_of_le (by omega)
  have b2 : Nat.ble (xs.length - j) (xs.drop j).length = true := Nat.ble_eq_true_of_le (by simp)
  have b3 : Nat.ble (0 + xs.length + m) (([] ++ xs).take (0 + xs.length) ++ List.replicate m 0).length = true := Nat.ble_eq_true_of_le (by simp)
  have b4 : Nat.ble xs.length xs.length = true := Nat.ble_eq_true_of_le (Nat.le_refl _)
  have d1 : decide ((0 : Int) ≤ 0 ∧ 0 ≤ (j : Int) ∧ (j : Int) ≤ (xs.length : Int)) = true := decide_eq_true (by omega)
  have d2 : decide (0 ≤ (j : Int) ∧ (j : Int) ≤ (xs.length : Int) ∧ (xs.length : Int) ≤ (xs.length : Int)) = true := decide_eq_true (by omega)
  have d3 : decide (0 + xs.length ≤ 1073741824) = true := decide_eq_true (by omega)
  have d4 : decide (0 ≤ (m : Int) ∧ (m : Int) ≤ 1073741824) = true := decide_eq_true (by omega)
  have d5 : decide (0 + xs.length + m ≤ 1073741824) = true := decide_eq_true (by omega)
  simp only [gud, aud, b1, b2, b3, b4, d1, d2, d3, d4, d5, cond_true]
theorem call9 : ∀ l, args [.ints .u8, .i .u8, .i .u16, .i .i64] l → oks l → CallOk PR i_anneallaw27_SumTells32 l [] fun r _ => r = .b true := by
  rintro l ⟨c0, l, ⟨xs, hlx, hxs, h0⟩, ⟨c1, l, ⟨a, ha, h1⟩, ⟨c2, l, ⟨n, hn, h2⟩, ⟨c3, l, ⟨k, hk, h3⟩, rfl, rfl⟩, rfl⟩, rfl⟩, rfl⟩ ho
  injection h0 with h0; injection h1 with h1; injection h2 with h2; injection h3 with h3; subst h0 h1 h2 h3
  refine (run_fn (kp := false) (L := L0) okO9 mixed p_anneallaw27_SumTells32 (by kernel_rfl) (by kernel_rfl) (loopsOk0 (by kernel_rfl)) (r := .b true) (h' := []) fun _ _ => (run9 xs a n k).trans ?_).mono fun q _ h => h.1
  by_cases h200 : (xs.length : Int) > 200
  · simp only [h200, decide_true, cond_true]
  · obtain ⟨a, rfl, ha'⟩ := u8_nat ha
    have hn : 0 ≤ n ∧ n ≤ 65535 := hn
    obtain ⟨n, rfl⟩ := Int.eq_ofNat_of_zero_le hn.1
    have w1 : IntKind.i64.wrap ((xs.length : Int) + 1) = ((xs.length + 1 : Nat) : Int) := w64_id (by omega)
    have w2 : ((a : Int)).tmod ((xs.length + 1 : Nat) : Int) = ((a % (xs.length + 1) : Nat) : Int) := by rw [Int.tmod_eq_emod_of_nonneg (by omega)]; rfl
    have w3 : ((n : Int)).tmod 300 = ((n % 300 : Nat) : Int) := by rw [Int.tmod_eq_emod_of_nonneg (by omega)]; rfl
    have hne : (((xs.length + 1 : Nat) : Int) == 0) = false := by simp; omega
    rw [w1, w64_id (n := (a : Int)) (by omega), w2, w3, w64_id (n := ((n % 300 : Nat) : Int)) (by omega), hne]
    simp only [h200, decide_false, cond_false]
    exact plain9 xs hxs (by omega) _ _ (by have := Nat.mod_lt a (show xs.length + 1 > 0 by omega); omega) (Nat.mod_lt _ (by decide)) k
end Go.Proofs.Ytcpicekmnkjceaa.VI
