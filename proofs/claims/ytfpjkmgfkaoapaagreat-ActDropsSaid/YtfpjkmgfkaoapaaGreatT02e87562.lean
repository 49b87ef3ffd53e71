import Derived.Test.YtfpjkmgfkaoapaaGreatTed69f219
namespace Go.Proofs.YtfpjkmgfkaoapaaGreat.VI
set_option linter.unusedVariables false
set_option linter.unusedSimpArgs false
set_option maxRecDepth 100000
set_option maxHeartbeats 4000000
theorem vl10 (n : Bool) (a b c d e f g h i j : Int) : vl (n, [a, b, c, d, e, f, g, h, i, j], ()) = 0 + a * 2 ^ (64 * 0) + b * 2 ^ (64 * 1) + c * 2 ^ (64 * 2) + d * 2 ^ (64 * 3) + e * 2 ^ (64 * 4) + f * 2 ^ (64 * 5) + g * 2 ^ (64 * 6) + h * 2 ^ (64 * 7) + i * 2 ^ (64 * 8) + j * 2 ^ (64 * 9) := rfl
theorem two_sh (a b : Int) (i : Nat) : (a + b * 2 ^ 64) * 2 ^ (64 * i) = a * 2 ^ (64 * i) + b * 2 ^ (64 * (i + 1)) := by
  rw [Int.add_mul, Int.mul_assoc, ← p2_add, Nat.mul_add, Nat.mul_one, Nat.add_comm]
theorem wd10 (n : Bool) {a b c d e f g h i j : Int} (h0 : w64 a) (h1 : w64 b) (h2 : w64 c) (h3 : w64 d) (h4 : w64 e) (h5 : w64 f) (h6 : w64 g) (h7 : w64 h) (h8 : w64 i) (h9 : w64 j) : wd (n, [a, b, c, d, e, f, g, h, i, j], ()) := by
  refine ⟨rfl, fun k hk => ?_⟩
  match k, hk with
  | 0, _ => exact h0
  | 1, _ => exact h1
  | 2, _ => exact h2
  | 3, _ => exact h3
  | 4, _ => exact h4
  | 5, _ => exact h5
  | 6, _ => exact h6
  | 7, _ => exact h7
  | 8, _ => exact h8
  | 9, _ => exact h9
theorem w64_0 : w64 0 := ⟨by decide, by decide⟩
theorem set_two (n : Bool) (a b : Int) (ha : w64 a) (hb : w64 b) (i : Nat) (hi : i < 9) :
    wd (n, (List.set [(0:Int), 0, 0, 0, 0, 0, 0, 0, 0, 0] i a).set (i + 1) b, ()) ∧ vl (n, (List.set [(0:Int), 0, 0, 0, 0, 0, 0, 0, 0, 0] i a).set (i + 1) b, ()) = (a + b * 2 ^ 64) * 2 ^ (64 * i) := by
  have z := w64_0
  match i, hi with
  | 0, _ => exact ⟨wd10 n ha hb z z z z z z z z, (vl10 n a b 0 0 0 0 0 0 0 0).trans (by rw [two_sh]; simp only [Int.zero_mul, Int.zero_add, Int.add_zero])⟩
  | 1, _ => exact ⟨wd10 n z ha hb z z z z z z z, (vl10 n 0 a b 0 0 0 0 0 0 0).trans (by rw [two_sh]; simp only [Int.zero_mul, Int.zero_add, Int.add_zero])⟩
  | 2, _ => exact ⟨wd10 n z z ha hb z z z z z z, (vl10 n 0 0 a b 0 0 0 0 0 0).trans (by rw [two_sh]; simp only [Int.zero_mul, Int.zero_add, Int.add_zero])⟩
  | 3, _ => exact ⟨wd10 n z z z ha hb z z z z z, (vl10 n 0 0 0 a b 0 0 0 0 0).trans (by rw [two_sh]; simp only [Int.zero_mul, Int.zero_add, Int.add_zero])⟩
  | 4, _ => exact ⟨wd10 n z z z z ha hb z z z z, (vl10 n 0 0 0 0 a b 0 0 0 0).trans (by rw [two_sh]; simp only [Int.zero_mul, Int.zero_add, Int.add_zero])⟩
  | 5, _ => exact ⟨wd10 n z z z z z ha hb z z z, (vl10 n 0 0 0 0 0 a b 0 0 0).trans (by rw [two_sh]; simp only [Int.zero_mul, Int.zero_add, Int.add_zero])⟩
  | 6, _ => exact ⟨wd10 n z z z z z z ha hb z z, (vl10 n 0 0 0 0 0 0 a b 0 0).trans (by rw [two_sh]; simp only [Int.zero_mul, Int.zero_add, Int.add_zero])⟩
  | 7, _ => exact ⟨wd10 n z z z z z z z ha hb z, (vl10 n 0 0 0 0 0 0 0 a b 0).trans (by rw [two_sh]; simp only [Int.zero_mul, Int.zero_add, Int.add_zero])⟩
  | 8, _ => exact ⟨wd10 n z z z z z z z z ha hb, (vl10 n 0 0 0 0 0 0 0 0 a b).trans (by rw [two_sh]; simp only [Int.zero_mul, Int.zero_add, Int.add_zero])⟩
theorem set_one (n : Bool) (a : Int) (ha : w64 a) (i : Nat) (hi : i < 9) :
    wd (n, List.set [(0:Int), 0, 0, 0, 0, 0, 0, 0, 0, 0] i a, ()) ∧ vl (n, List.set [(0:Int), 0, 0, 0, 0, 0, 0, 0, 0, 0] i a, ()) = a * 2 ^ (64 * i) := by
  have := set_two n a 0 ha w64_0 i hi
  have e : (List.set [(0:Int), 0, 0, 0, 0, 0, 0, 0, 0, 0] i a).set (i + 1) 0 = List.set [(0:Int), 0, 0, 0, 0, 0, 0, 0, 0, 0] i a := by
    match i, hi with
    | 0, _ => rfl
    | 1, _ => rfl
    | 2, _ => rfl
    | 3, _ => rfl
    | 4, _ => rfl
    | 5, _ => rfl
    | 6, _ => rfl
    | 7, _ => rfl
    | 8, _ => rfl
  rw [e] at this
  exact ⟨this.1, by rw [this.2]; simp⟩
theorem spread_eq (n : Bool) {e N : Int} (he : -298 ≤ e ∧ e ≤ 260) (hN : w64 N) : ∃ L, F_9a4 n e N = some (n, L, ()) ∧ wd (n, L, ()) ∧ vl (n, L, ()) = N * 2 ^ (e + 298).toNat := by
  have c64 : (2 : Int) ^ 64 = 18446744073709551616 := rfl
  unfold F_9a4
  dsimp only
  rw [wi64 (n := e + 298) (by omega), tdiv_nn (by omega), tmod_nn (by omega)]
  generalize ht : e + 298 = t at *
  obtain ⟨i, hi⟩ : ∃ i : Nat, t / 64 = i := ⟨(t / 64).toNat, by omega⟩
  obtain ⟨s, hs⟩ : ∃ s : Nat, t % 64 = s := ⟨(t % 64).toNat, by omega⟩
  rw [hi, hs, wi64 (n := (i : Int)) (by omega), wi64 (n := (i : Int) + 1) (by omega), wi64 (n := 64 - (s : Int)) (by omega)]
  have e1 : ((1:Nat) + ((Int.toNat (i : Int)) * (1:Nat))) - 1 = i := by omega
  have e2 : ((1:Nat) + ((Int.toNat ((i : Int) + 1)) * (1:Nat))) - 1 = i + 1 := by omega
  have m1 : min (Int.toNat (s : Int)) 64 = s := by omega
  have m2 : min (Int.toNat (64 - (s : Int))) 64 = 64 - s := by omega
  have hT : t.toNat = s + 64 * i := by omega
  have ps := p2_pos s
  have a1 : w64 (IntKind.u64.wrap (N * 2 ^ s)) := by rw [wu64_eq]; exact ⟨by omega, by omega⟩
  have a2 : w64 (N / 2 ^ (64 - s)) := ⟨Int.ediv_nonneg hN.1 (by have := p2_pos (64 - s); omega), by
    have := Int.ediv_le_self (b := 2 ^ (64 - s)) hN.1; have := hN.2; omega⟩
  have s2 := set_two n (IntKind.u64.wrap (N * 2 ^ s)) (N / 2 ^ (64 - s)) a1 a2 i (by omega)
  have s1 := set_one n (IntKind.u64.wrap (N * 2 ^ s)) a1 i (by omega)
  have l1 : (List.set [(0:Int), 0, 0, 0, 0, 0, 0, 0, 0, 0] i (IntKind.u64.wrap (N * 2 ^ s))).length = 10 := s1.1.1
  have l2 : ((List.set [(0:Int), 0, 0, 0, 0, 0, 0, 0, 0, 0] i (IntKind.u64.wrap (N * 2 ^ s))).set (i + 1) (N / 2 ^ (64 - s))).length = 10 := s2.1.1
  simp only [e1, e2, m1, m2, len10 l1, len10 l2, l1, l2, bif_dec]
  rw [if_pos (by omega), if_pos (by omega), if_pos (by omega)]
  by_cases h0 : (s : Int) > 0
  · rw [if_pos h0, if_pos (by omega), if_pos (by omega), if_pos (by omega), if_pos (by omega), if_pos (by decide)]
    refine ⟨_, rfl, s2.1, ?_⟩
    rw [s2.2, hT, p2_add, ← Int.mul_assoc]
    congr 1
    rw [wu64_eq, c64]
    have d := Int.emod_add_mul_ediv (N * 2 ^ s) 18446744073709551616
    have q : N * 2 ^ s / 18446744073709551616 = N / 2 ^ (64 - s) := by
      rw [← c64, mul_p2_div' _ _ _ (by omega)]
    rw [q] at d; omega
  · rw [if_neg h0, if_pos (by decide)]
    refine ⟨_, rfl, s1.1, ?_⟩
    have : s = 0 := by omega
    subst this
    rw [s1.2, hT, p2_add, ← Int.mul_assoc]
    congr 1
    rw [wu64_eq]; have := hN.1; have := hN.2; simp; omega
theorem total_eq (f mode : Int) {x y : WdT} (hx : wd x) (hy : wd y) (hov : vl x + vl y < 2 ^ 640) : F_9a3 f mode x y = some (totS f mode (sv x.1 (vl x) + sv y.1 (vl y))) := by
  obtain ⟨r, hr, wr, hv⟩ := plus_eq hx hy hov
  unfold F_9a3
  simp only [len10 hx.1, len10 hy.1]
  rw [show (x.1, x.2.1, ()) = x from rfl, show (y.1, y.2.1, ()) = y from rfl, hr]
  simp only [Option.bind_some, len10 wr.1]
  have bd := vl_bd wr
  have hz := vf_zero (n := 10) wr.2
  have hn : ((r.2.1.getD 0 0 == 0) && ((r.2.1.getD 1 0 == 0) && ((r.2.1.getD 2 0 == 0) && ((r.2.1.getD 3 0 == 0) && ((r.2.1.getD 4 0 == 0) && ((r.2.1.getD 5 0 == 0) && ((r.2.1.getD 6 0 == 0) && ((r.2.1.getD 7 0 == 0) && ((r.2.1.getD 8 0 == 0) && ((r.2.1.getD 9 0 == 0) && true)))))))))) = decide (vl r = 0) := by
    rw [Bool.eq_iff_iff, decide_eq_true_eq]
    unfold vl
    rw [hz]
    simp only [Bool.and_eq_true, beq_iff_eq, and_true]
    constructor
    · rintro ⟨h0, h1, h2, h3, h4, h5, h6, h7, h8, h9⟩ k hk
      match k, hk with
      | 0, _ => exact h0
      | 1, _ => exact h1
      | 2, _ => exact h2
      | 3, _ => exact h3
      | 4, _ => exact h4
      | 5, _ => exact h5
      | 6, _ => exact h6
      | 7, _ => exact h7
      | 8, _ => exact h8
      | 9, _ => exact h9
    · intro h
      exact ⟨h 0 (by omega), h 1 (by omega), h 2 (by omega), h 3 (by omega), h 4 (by omega), h 5 (by omega), h 6 (by omega), h 7 (by omega), h 8 (by omega), h 9 (by omega)⟩
  rw [hn, ← hv]
  unfold totS
  by_cases h0 : vl r = 0
  · rw [decide_eq_true h0]
    have : sv r.1 (vl r) = 0 := by rw [h0]; unfold sv; simp
    rw [this, if_pos rfl, zeror_w]; rfl
  · rw [decide_eq_false h0]
    simp only [cond_false]
    rw [show (r.1, r.2.1, ()) = r from rfl, rounded_eq f mode wr h0]
    simp only [Option.bind_some]
    have hne : sv r.1 (vl r) ≠ 0 := by unfold sv; split <;> omega
    rw [if_neg hne]
    have hs : r.1 = decide (sv r.1 (vl r) < 0) := by
      unfold sv; cases r.1 <;> simp <;> omega
    have ha : (if sv r.1 (vl r) < 0 then -sv r.1 (vl r) else sv r.1 (vl r)) = vl r := by
      unfold sv; cases r.1 <;> simp <;> omega
    rw [ha, ← hs]
end Go.Proofs.YtfpjkmgfkaoapaaGreat.VI
