import Derived.Test.YtkmkhcmfpbffjaaGreatT76d00f4b
namespace Go.Proofs.YtkmkhcmfpbffjaaGreat.VI
set_option linter.unusedVariables false
set_option linter.unusedSimpArgs false
set_option maxRecDepth 100000
set_option maxHeartbeats 4000000
abbrev w64 (a : Int) : Prop := 0 ≤ a ∧ a < 18446744073709551616
theorem lenlist {y : Int} (h0 : 0 ≤ y) (h1 : y < 256) : F_974 y = some (ln y) := by
  have e : y = ((y.toNat : Nat) : Int) := by omega
  have : ∀ n : Nat, n < 256 → F_974 (n : Int) = some (ln (n : Int)) := by decide +kernel
  rw [e]; exact this _ (by omega)
def tbL : List UInt8 := [(0:UInt8), (1:UInt8), (2:UInt8), (2:UInt8), (3:UInt8), (3:UInt8), (3:UInt8), (3:UInt8), (4:UInt8), (4:UInt8), (4:UInt8), (4:UInt8), (4:UInt8), (4:UInt8), (4:UInt8), (4:UInt8), (5:UInt8), (5:UInt8), (5:UInt8), (5:UInt8), (5:UInt8), (5:UInt8), (5:UInt8), (5:UInt8), (5:UInt8), (5:UInt8), (5:UInt8), (5:UInt8), (5:UInt8), (5:UInt8), (5:UInt8), (5:UInt8), (6:UInt8), (6:UInt8), (6:UInt8), (6:UInt8), (6:UInt8), (6:UInt8), (6:UInt8), (6:UInt8), (6:UInt8), (6:UInt8), (6:UInt8), (6:UInt8), (6:UInt8), (6:UInt8), (6:UInt8), (6:UInt8), (6:UInt8), (6:UInt8), (6:UInt8), (6:UInt8), (6:UInt8), (6:UInt8), (6:UInt8), (6:UInt8), (6:UInt8), (6:UInt8), (6:UInt8), (6:UInt8), (6:UInt8), (6:UInt8), (6:UInt8), (6:UInt8), (7:UInt8), (7:UInt8), (7:UInt8), (7:UInt8), (7:UInt8), (7:UInt8), (7:UInt8), (7:UInt8), (7:UInt8), (7:UInt8), (7:UInt8), (7:UInt8), (7:UInt8), (7:UInt8), (7:UInt8), (7:UInt8), (7:UInt8), (7:UInt8), (7:UInt8), (7:UInt8), (7:UInt8), (7:UInt8), (7:UInt8), (7:UInt8), (7:UInt8), (7:UInt8), (7:UInt8), (7:UInt8), (7:UInt8), (7:UInt8), (7:UInt8), (7:UInt8), (7:UInt8), (7:UInt8), (7:UInt8), (7:UInt8), (7:UInt8), (7:UInt8), (7:UInt8), (7:UInt8), (7:UInt8), (7:UInt8), (7:UInt8), (7:UInt8), (7:UInt8), (7:UInt8), (7:UInt8), (7:UInt8), (7:UInt8), (7:UInt8), (7:UInt8), (7:UInt8), (7:UInt8), (7:UInt8), (7:UInt8), (7:UInt8), (7:UInt8), (7:UInt8), (7:UInt8), (7:UInt8), (7:UInt8), (7:UInt8), (7:UInt8), (7:UInt8), (8:UInt8), (8:UInt8), (8:UInt8), (8:UInt8), (8:UInt8), (8:UInt8), (8:UInt8), (8:UInt8), (8:UInt8), (8:UInt8), (8:UInt8), (8:UInt8), (8:UInt8), (8:UInt8), (8:UInt8), (8:UInt8), (8:UInt8), (8:UInt8), (8:UInt8), (8:UInt8), (8:UInt8), (8:UInt8), (8:UInt8), (8:UInt8), (8:UInt8), (8:UInt8), (8:UInt8), (8:UInt8), (8:UInt8), (8:UInt8), (8:UInt8), (8:UInt8), (8:UInt8), (8:UInt8), (8:UInt8), (8:UInt8), (8:UInt8), (8:UInt8), (8:UInt8), (8:UInt8), (8:UInt8), (8:UInt8), (8:UInt8), (8:UInt8), (8:UInt8), (8:UInt8), (8:UInt8), (8:UInt8), (8:UInt8), (8:UInt8), (8:UInt8), (8:UInt8), (8:UInt8), (8:UInt8), (8:UInt8), (8:UInt8), (8:UInt8), (8:UInt8), (8:UInt8), (8:UInt8), (8:UInt8), (8:UInt8), (8:UInt8), (8:UInt8), (8:UInt8), (8:UInt8), (8:UInt8), (8:UInt8), (8:UInt8), (8:UInt8), (8:UInt8), (8:UInt8), (8:UInt8), (8:UInt8), (8:UInt8), (8:UInt8), (8:UInt8), (8:UInt8), (8:UInt8), (8:UInt8), (8:UInt8), (8:UInt8), (8:UInt8), (8:UInt8), (8:UInt8), (8:UInt8), (8:UInt8), (8:UInt8), (8:UInt8), (8:UInt8), (8:UInt8), (8:UInt8), (8:UInt8), (8:UInt8), (8:UInt8), (8:UInt8), (8:UInt8), (8:UInt8), (8:UInt8), (8:UInt8), (8:UInt8), (8:UInt8), (8:UInt8), (8:UInt8), (8:UInt8), (8:UInt8), (8:UInt8), (8:UInt8), (8:UInt8), (8:UInt8), (8:UInt8), (8:UInt8), (8:UInt8), (8:UInt8), (8:UInt8), (8:UInt8), (8:UInt8), (8:UInt8), (8:UInt8), (8:UInt8), (8:UInt8), (8:UInt8), (8:UInt8), (8:UInt8), (8:UInt8), (8:UInt8), (8:UInt8), (8:UInt8)]
def tb (z : Int) : Int := ((UInt8.toNat (List.getD tbL (Int.toNat z) (0:UInt8)) : Nat) : Int)
theorem tb_bd (z : Int) : 0 ≤ tb z ∧ tb z < 256 := by
  have := (List.getD tbL (Int.toNat z) (0:UInt8)).toNat_lt
  unfold tb; omega
def lenF (x0 x1 x2 x3 x4 x5 : Int) : Option Int :=
  bif decide ((0:Int) ≤ IntKind.wrap .u8 x4 ∧ IntKind.wrap .u8 x4 < 256) then some (IntKind.wrap .i64 (x5 + IntKind.wrap .i64 (tb (IntKind.wrap .u8 x4)))) else none
theorem len_un (a0 : Int) : F_974 a0 =
  (fun (x0 x2 : Int) => (fun (x1 x3 : Int) => (fun (x4 x5 : Int) => lenF x0 x1 x2 x3 x4 x5) (bif (decide (x3 ≥ (256:Int))) then (x3 / (256:Int)) else x3) (bif (decide (x3 ≥ (256:Int))) then (IntKind.wrap .i64 (x1 + (8:Int))) else x1)) (bif (decide (x2 ≥ (65536:Int))) then (IntKind.wrap .i64 (x0 + (16:Int))) else x0) (bif (decide (x2 ≥ (65536:Int))) then (x2 / (65536:Int)) else x2)) (bif (decide (a0 ≥ (4294967296:Int))) then (32:Int) else (0:Int)) (bif (decide (a0 ≥ (4294967296:Int))) then (a0 / (4294967296:Int)) else a0) := rfl
theorem len_step (v : Int) (k m : Nat) (h0 : 0 ≤ v) (h1 : v < 2 ^ (k + m)) : ln v = (bif decide (v ≥ 2 ^ k) then (k : Int) else 0) + ln (bif decide (v ≥ 2 ^ k) then v / 2 ^ k else v) ∧ 0 ≤ (bif decide (v ≥ 2 ^ k) then v / 2 ^ k else v) ∧ (v ≥ 2 ^ k → (bif decide (v ≥ 2 ^ k) then v / 2 ^ k else v) < 2 ^ m) ∧ (¬ v ≥ 2 ^ k → (bif decide (v ≥ 2 ^ k) then v / 2 ^ k else v) < 2 ^ k) := by
  rw [bif_dec, bif_dec]
  have c := p2_pos k
  by_cases h : v ≥ 2 ^ k
  · rw [if_pos h, if_pos h]
    refine ⟨ln_div h, Int.ediv_nonneg h0 (by omega), fun _ => ?_, fun n => absurd h n⟩
    rw [Int.ediv_lt_iff_lt_mul c, Int.mul_comm, ← p2_add]; exact h1
  · rw [if_neg h, if_neg h]
    exact ⟨by omega, h0, fun n => absurd n h, fun _ => by omega⟩
theorem len_hi {v : Int} (h : w64 v) : F_974 v = some (ln v) := by
  have s1 := len_step v 32 32 h.1 (by have : (2 : Int) ^ (32 + 32) = 18446744073709551616 := rfl; omega)
  rw [len_un]
  rw [show (2 : Int) ^ 32 = 4294967296 from rfl] at s1
  have b0 : (bif decide (v ≥ 4294967296) then (32 : Int) else 0) = 0 ∨ (bif decide (v ≥ 4294967296) then (32 : Int) else 0) = 32 := by cases decide (v ≥ 4294967296) <;> simp
  rw [show ((32 : Nat) : Int) = 32 from rfl] at s1
  generalize (bif decide (v ≥ 4294967296) then (32 : Int) else 0) = x0 at *
  have b1 : (bif decide (v ≥ 4294967296) then v / 4294967296 else v) < 4294967296 := by
    by_cases e : v ≥ 4294967296
    · exact s1.2.2.1 e
    · exact s1.2.2.2 e
  have b2 := s1.2.1
  have s1 := s1.1
  generalize (bif decide (v ≥ 4294967296) then v / 4294967296 else v) = x2 at *
  show (fun (x1 x3 : Int) => (fun (x4 x5 : Int) => lenF x0 x1 x2 x3 x4 x5) _ _) _ _ = _
  have s2 := len_step x2 16 16 b2 (by have : (2 : Int) ^ (16 + 16) = 4294967296 := rfl; omega)
  rw [show (2 : Int) ^ 16 = 65536 from rfl, show ((16 : Nat) : Int) = 16 from rfl] at s2
  have c1 : (bif decide (x2 ≥ 65536) then x2 / 65536 else x2) < 65536 := by
    by_cases e : x2 ≥ 65536
    · exact s2.2.2.1 e
    · exact s2.2.2.2 e
  have c0 : (bif decide (x2 ≥ 65536) then IntKind.i64.wrap (x0 + 16) else x0) = x0 + (bif decide (x2 ≥ 65536) then (16 : Int) else 0) := by
    rw [wi64 (by omega)]; cases decide (x2 ≥ 65536) <;> simp
  have c3 : (bif decide (x2 ≥ 65536) then (16 : Int) else 0) = 0 ∨ (bif decide (x2 ≥ 65536) then (16 : Int) else 0) = 16 := by cases decide (x2 ≥ 65536) <;> simp
  rw [c0]
  have c2 := s2.2.1
  have s2 := s2.1
  generalize (bif decide (x2 ≥ 65536) then (16 : Int) else 0) = d1 at *
  generalize (bif decide (x2 ≥ 65536) then x2 / 65536 else x2) = x3 at *
  show (fun (x4 x5 : Int) => lenF x0 (x0 + d1) x2 x3 x4 x5) _ _ = _
  have s3 := len_step x3 8 8 c2 (by have : (2 : Int) ^ (8 + 8) = 65536 := rfl; omega)
  rw [show (2 : Int) ^ 8 = 256 from rfl, show ((8 : Nat) : Int) = 8 from rfl] at s3
  have e1 : (bif decide (x3 ≥ 256) then x3 / 256 else x3) < 256 := by
    by_cases e : x3 ≥ 256
    · exact s3.2.2.1 e
    · exact s3.2.2.2 e
  have e0 : (bif decide (x3 ≥ 256) then IntKind.i64.wrap (x0 + d1 + 8) else x0 + d1) = x0 + d1 + (bif decide (x3 ≥ 256) then (8 : Int) else 0) := by
    rw [wi64 (by omega)]; cases decide (x3 ≥ 256) <;> simp
  have e3 : (bif decide (x3 ≥ 256) then (8 : Int) else 0) = 0 ∨ (bif decide (x3 ≥ 256) then (8 : Int) else 0) = 8 := by cases decide (x3 ≥ 256) <;> simp
  rw [e0]
  have e2 := s3.2.1
  have s3 := s3.1
  generalize (bif decide (x3 ≥ 256) then (8 : Int) else 0) = d2 at *
  generalize (bif decide (x3 ≥ 256) then x3 / 256 else x3) = y at *
  show lenF _ _ _ _ _ _ = _
  have L := lenlist e2 e1
  rw [len_un] at L
  simp only [bif_dec] at L
  simp only [if_neg (show ¬ y ≥ 4294967296 by omega), if_neg (show ¬ y ≥ 65536 by omega), if_neg (show ¬ y ≥ 256 by omega)] at L
  unfold lenF at L ⊢
  have hb := tb_bd y
  rw [wu8 (n := y) (by omega), bif_dec, if_pos (by omega)] at L ⊢
  rw [wi64 (n := tb y) (by omega)] at L ⊢
  rw [wi64 (by omega)] at L ⊢
  have L := Option.some.inj L
  congr 1; omega
theorem len_eq {v : Int} (h : w64 v) : F_944 v = some (ln v) := by
  unfold F_944; rw [len_hi h]; rfl
theorem lenr_eq {v : Int} (h : w64 v) : F_959 v = some (ln v) := by
  unfold F_959
  have hl := ln_bd (k := 64) h.1 (by have : (2 : Int) ^ 64 = 18446744073709551616 := rfl; omega)
  have key : ∀ i : Nat, (i : Int) ≤ ln v → ln (v / 2 ^ i) = ln v - i := by
    intro i; induction i with
    | zero => intro _; simp
    | succ n ih =>
      intro hi
      have a := ih (by omega)
      have hp : 0 < v / 2 ^ n := by
        apply Int.not_le.1; intro hn
        have : ln (v / 2 ^ n) = 0 := by unfold ln; rw [if_pos hn]
        omega
      have b := ln_half hp
      have c := div_p2 v n 1
      rw [show (2 : Int) ^ 1 = 2 from rfl] at c
      rw [← c]; omega
  have := lim_seq (st := st_959_0) (fun i => ((v / 2 ^ i, ((i : Int), ())), ())) (b := ((ln v, ()), ())) (ln v).toNat
    (fun i hi R kn ko => by
      have a := key i (by omega)
      have hp : 0 < v / 2 ^ i := by
        apply Int.not_le.1; intro hn
        have : ln (v / 2 ^ i) = 0 := by unfold ln; rw [if_pos hn]
        omega
      unfold st_959_0
      simp only [bif_dec]
      rw [if_pos hp, wi64 (by omega)]
      have c := div_p2 v i 1
      rw [show (2 : Int) ^ 1 = 2 from rfl] at c
      rw [c, show ((i + 1 : Nat) : Int) = (i : Int) + 1 by omega])
    (fun R kn ko => by
      have a := key (ln v).toNat (by omega)
      have hp : ¬ 0 < v / 2 ^ (ln v).toNat := by
        intro hn
        have := ln_pos hn
        omega
      unfold st_959_0
      simp only [bif_dec]
      rw [if_neg hp, show (((ln v).toNat : Nat) : Int) = ln v by omega])
  rw [show v / 2 ^ 0 = v by simp] at this
  exact (congrArg (fun o => Option.bind o fun r0 => some r0.1.1) this).trans rfl
theorem p2_min {k : Nat} (h : k ≤ 64) : min k 64 = k := Nat.min_eq_left h
theorem p2_big {k : Nat} {v : Int} (h0 : 0 ≤ v) (h1 : v < 18446744073709551616) (hk : 64 ≤ k) : v / 2 ^ k = 0 ∧ v % 2 ^ k = v := by
  have := p2_le hk
  rw [show (2 : Int) ^ 64 = 18446744073709551616 from rfl] at this
  exact ⟨Int.ediv_eq_zero_of_lt h0 (by omega), Int.emod_eq_of_lt h0 (by omega)⟩
theorem shr_eq {v n : Int} (h : w64 v) (hn : 0 ≤ n ∧ n < 1000000) : F_97a v n = some (v / 2 ^ n.toNat, decide (v % 2 ^ n.toNat ≠ 0), ()) := by
  unfold F_97a
  simp only [bif_dec]
  by_cases h64 : n ≥ 64
  · have b := p2_big h.1 h.2 (show 64 ≤ n.toNat by omega)
    rw [if_pos h64, b.1, b.2]
    have : (v != 0) = decide (v ≠ 0) := by rw [Bool.eq_iff_iff]; simp
    rw [this]
  · rw [if_neg h64, if_neg (by omega), if_pos (by omega), wu64 (by omega), if_pos (by omega), if_pos (by omega), p2_min (by omega)]
    have p := p2_pos n.toNat
    have hd := Int.emod_add_mul_ediv v (2 ^ n.toNat)
    have hm := Int.emod_nonneg v (show (2 : Int) ^ n.toNat ≠ 0 by omega)
    rw [Int.mul_comm] at hd
    have h0 : 0 ≤ v / 2 ^ n.toNat * 2 ^ n.toNat := Int.mul_nonneg (Int.ediv_nonneg h.1 (by omega)) (by omega)
    rw [wu64 (n := v / 2 ^ n.toNat * 2 ^ n.toNat) (by omega)]
    have : (v / 2 ^ n.toNat * 2 ^ n.toNat != v) = decide (v % 2 ^ n.toNat ≠ 0) := by
      rw [Bool.eq_iff_iff]; simp; omega
    rw [this]
theorem shl_eq {v n : Int} (h : w64 v) (hn : 0 < n ∧ n < 1000000) (hv : v * 2 ^ n.toNat < 18446744073709551616) : F_97a v (-n) = some (v * 2 ^ n.toNat, false, ()) := by
  unfold F_97a
  simp only [bif_dec]
  rw [if_neg (by omega)]
  have p := p2_pos n.toNat
  have hz : 0 ≤ v * 2 ^ n.toNat := Int.mul_nonneg h.1 (by omega)
  by_cases h64 : n ≥ 64
  · rw [if_pos (by omega)]
    have : v = 0 := by
      apply Int.le_antisymm ?_ h.1
      apply Int.not_lt.1; intro hp
      have := p2_le (show 64 ≤ n.toNat by omega)
      rw [show (2 : Int) ^ 64 = 18446744073709551616 from rfl] at this
      have : 1 * 2 ^ n.toNat ≤ v * 2 ^ n.toNat := Int.mul_le_mul_of_nonneg_right (by omega) (by omega)
      omega
    subst this; simp
  · rw [if_neg (by omega), if_neg (by omega), wi64 (by omega), show 0 - -n = n by omega, wu64 (n := n) (by omega), if_pos (by omega), if_pos (by omega), p2_min (by omega), wu64 ⟨hz, by omega⟩]
    rw [Int.mul_ediv_cancel _ (by omega)]; simp
theorem and1_64 {v : Int} (h : w64 v) : bits .and .u64 v 1 = v % 2 := by
  rw [Go.u64_and v 1 h.1 h.2 (by omega) (by omega)]
  have : (1 : Int).toNat = 1 := rfl
  rw [this, Nat.and_one_is_mod]; omega
theorem shr_st {v n : Int} (h : w64 v) (hn : 0 ≤ n ∧ n ≤ 64) (i : Nat) (hi : (i : Int) < n) (R kn ko) :
    st_97b_0 R ((v / 2 ^ i, n - i, decide (v % 2 ^ i ≠ 0), ()), ()) kn ko = kn ((v / 2 ^ (i + 1), n - ((i + 1 : Nat) : Int), decide (v % 2 ^ (i + 1) ≠ 0), ()), ()) := by
  unfold st_97b_0
  have p := p2_pos i
  have hq : w64 (v / 2 ^ i) := ⟨Int.ediv_nonneg h.1 (by omega), by
    have := Int.ediv_le_self (b := 2 ^ i) h.1; omega⟩
  dsimp only
  rw [bif_dec, if_pos (show n - (i : Int) > 0 by omega), wi64 (n := n - (i : Int) - 1) (by omega), and1_64 hq]
  have c := div_p2 v i 1
  have d := mod_p2 v i 1
  rw [show (2 : Int) ^ 1 = 2 from rfl] at c d
  rw [c, d, show n - (i : Int) - 1 = n - ((i + 1 : Nat) : Int) by omega]
  have hm := Int.emod_nonneg v (show (2 : Int) ^ i ≠ 0 by omega)
  by_cases e : v % 2 ^ i = 0
  · rw [e]
    have : (v / 2 ^ i % 2 == 1) = decide (0 + 2 ^ i * (v / 2 ^ i % 2) ≠ 0) := by
      rw [Bool.eq_iff_iff]
      rcases (show v / 2 ^ i % 2 = 0 ∨ v / 2 ^ i % 2 = 1 by omega) with g | g <;> rw [g] <;> simp
      omega
    rw [this]; simp
  · have g : decide (v % 2 ^ i + 2 ^ i * (v / 2 ^ i % 2) ≠ 0) = true := by
      have : 0 ≤ 2 ^ i * (v / 2 ^ i % 2) := Int.mul_nonneg (by omega) (by omega)
      simp; omega
    rw [g, decide_eq_true e]; rfl
theorem shrr_eq {v n : Int} (h : w64 v) (hn : 0 ≤ n ∧ n ≤ 64) : F_97b v n = some (v / 2 ^ n.toNat, decide (v % 2 ^ n.toNat ≠ 0), ()) := by
  unfold F_97b
  have := lim_seq (st := st_97b_0) (fun i => ((v / 2 ^ i, n - (i : Int), decide (v % 2 ^ i ≠ 0), ()), ())) (b := ((v / 2 ^ n.toNat, 0, decide (v % 2 ^ n.toNat ≠ 0), ()), ())) n.toNat
    (fun i hi R kn ko => shr_st h hn i (by omega) R kn ko)
    (fun R kn ko => by
      unfold st_97b_0
      dsimp only
      rw [bif_dec, if_neg (show ¬ n - ((n.toNat : Nat) : Int) > 0 by omega), show n - ((n.toNat : Nat) : Int) = 0 by omega])
  rw [mn_eq, mx_eq, show min (max n (-64)) 64 = n by omega]
  have e : ((v / 2 ^ 0, n - ((0 : Nat) : Int), decide (v % 2 ^ 0 ≠ 0), ()), ()) = ((v, n, false, ()), ()) := by simp
  rw [e] at this
  rw [this]
  simp only [Option.bind_some]
  have := lim_done (st := st_97b_1) (v := ((v / 2 ^ n.toNat, (0 : Int), decide (v % 2 ^ n.toNat ≠ 0), ()), ())) (b := ((v / 2 ^ n.toNat, decide (v % 2 ^ n.toNat ≠ 0), ()), ())) (fun R kn ko => by
    unfold st_97b_1
    dsimp only
    rw [bif_dec, if_neg (show ¬ (0 : Int) < 0 by omega)])
  rw [this]; rfl
def sgn (f : Int) (neg : Bool) : Int := if neg then TT f else 0
abbrev ExcT : Type := Bool × Bool × Bool × Bool × Bool × Unit
def upS (mode : Int) (neg odd half rest : Bool) : Bool :=
  if mode = 1 then false else if mode = 2 then !neg && (half || rest) else if mode = 3 then neg && (half || rest) else if mode = 4 then half else half && (rest || odd)
def overS (f mode : Int) (neg : Bool) : Int := sgn f neg + (if mode = 1 ∨ (mode = 2 ∧ neg = true) ∨ (mode = 3 ∧ neg = false) then IN f - 1 else IN f)
def fin1 (mode : Int) (neg : Bool) (q : Int) (half rest : Bool) : Int := if upS mode neg (decide (q % 2 = 1)) half rest then q + 1 else q
def fin2 (f mode : Int) (neg : Bool) (u q1 : Int) (half rest small : Bool) : Int × ExcT × Unit :=
  if (if (if q1 / (2 * BB f) = 0 then q1 else q1 / 2) / BB f = 0 then 0 else (if q1 / (2 * BB f) = 0 then u else u + 1) + MM f - le f + 1) ≥ RR f - 1 then (overS f mode neg, (false, false, true, false, true, ()), ())
  else (sgn f neg + (if (if q1 / (2 * BB f) = 0 then q1 else q1 / 2) / BB f = 0 then 0 else (if q1 / (2 * BB f) = 0 then u else u + 1) + MM f - le f + 1) * BB f + (if q1 / (2 * BB f) = 0 then q1 else q1 / 2) % BB f,
    (false, false, false, (half || rest) && small, half || rest, ()), ())
def unitS (f e N : Int) : Int := (if N = 0 then le f else max (le f) (e + ln N - 1)) - MM f
def qS (N b : Int) : Int := if b ≤ 0 then N * 2 ^ (-b).toNat else N / 2 ^ b.toNat
def halfS (N b : Int) : Bool := if b ≤ 0 then false else decide (N / 2 ^ (b - 1).toNat % 2 = 1)
def restS (N b : Int) (more : Bool) : Bool := more || (if b ≤ 0 then false else decide (N % 2 ^ (b - 1).toNat ≠ 0))
def smallS (f e N : Int) : Bool := decide (N = 0 ∨ e + ln N - 1 < le f)
def pk (f mode : Int) (neg : Bool) (e N : Int) (more : Bool) : Int × ExcT × Unit :=
  if N = 0 ∧ more = false then (sgn f neg, (false, false, false, false, false, ()), ())
  else fin2 f mode neg (unitS f e N) (fin1 mode neg (qS N (unitS f e N - e)) (halfS N (unitS f e N - e)) (restS N (unitS f e N - e) more)) (halfS N (unitS f e N - e)) (restS N (unitS f e N - e) more) (smallS f e N)
theorem MM_pow (f : Int) : ∃ k : Nat, MM f = k ∧ BB f = 2 ^ k ∧ (k = 10 ∨ k = 7 ∨ k = 23) := by
  rcases tri f with rfl | rfl | ⟨h, h'⟩
  · exact ⟨10, by simp [MM], by simp [BB], by simp⟩
  · exact ⟨7, by simp [MM], by simp [BB], by simp⟩
  · exact ⟨23, by simp [MM, *], by simp [BB, *], by simp⟩
theorem le_bd (f : Int) : le f = -14 ∨ le f = -126 := by
  unfold le; rcases RR_pos f with h | h <;> rw [h] <;> simp
theorem q_bd (f e N : Int) (h : 0 ≤ N) : 0 ≤ qS N (unitS f e N - e) ∧ qS N (unitS f e N - e) < 2 * BB f := by
  obtain ⟨k, hk, hb, hk3⟩ := MM_pow f
  have pb := p2_pos k
  by_cases hN : N = 0
  · subst hN
    unfold qS; split <;> simp <;> omega
  have hp : 0 < N := by omega
  have hu : unitS f e N - e ≥ lg N - k := by unfold unitS; rw [if_neg hN, ln_pos hp, hk]; omega
  have hlt := lg_lt hp
  unfold qS
  generalize unitS f e N - e = b at *
  have hb2 : b ≥ lg N - k := by omega
  have e2 : 2 * BB f = 2 ^ (k + 1) := by rw [p2_succ, hb]
  rw [e2]
  split
  · have c := p2_pos (-b).toNat
    refine ⟨Int.mul_nonneg h (by omega), ?_⟩
    have : N * 2 ^ (-b).toNat < 2 ^ (lg N + 1) * 2 ^ (-b).toNat := Int.mul_lt_mul_of_pos_right hlt c
    rw [← p2_add] at this
    have := p2_le (show lg N + 1 + (-b).toNat ≤ k + 1 by omega)
    omega
  · have c := p2_pos b.toNat
    refine ⟨Int.ediv_nonneg h (by omega), ?_⟩
    rw [Int.ediv_lt_iff_lt_mul c, ← p2_add]
    have := p2_le (show lg N + 1 ≤ k + 1 + b.toNat by omega)
    omega
theorem least_eq (f : Int) : F_973 f = some (le f) := by
  unfold F_973 le
  rw [← wid_nf f, ← nf_RR f]
  rcases nf_cases f with h | h | h <;> rw [h] <;> rfl
theorem bias_eq (f : Int) : F_94c f = some (1 - le f) := by
  unfold F_94c le
  rw [← widr_nf f, ← nf_RR f]
  rcases nf_cases f with h | h | h <;> rw [h] <;> rfl
theorem TT_RB (f : Int) : TT f = RR f * BB f := by rcases tri f with rfl | rfl | ⟨h, h'⟩ <;> simp [TT, RR, BB, *]
theorem fmt_bd (f : Int) : (RR f = 32 ∨ RR f = 256) ∧ (BB f = 1024 ∨ BB f = 128 ∨ BB f = 8388608) ∧ (TT f = 32768 ∨ TT f = 2147483648) ∧ (MM f = 10 ∨ MM f = 7 ∨ MM f = 23) := by
  rcases tri f with rfl | rfl | ⟨h, h'⟩ <;> simp [TT, RR, BB, MM, *]
theorem join_eq (f : Int) (neg : Bool) {x m : Int} (hx : 0 ≤ x ∧ x < RR f) (hm : 0 ≤ m ∧ m < BB f) : F_96f f neg x m = some (sgn f neg + x * BB f + m) := by
  have hb : 0 ≤ x * BB f ∧ x * BB f + BB f ≤ TT f := by
    rw [TT_RB]
    have h1 : (x + 1) * BB f ≤ RR f * BB f := Int.mul_le_mul_of_nonneg_right (by omega) (by have := fmt_bd f; omega)
    rw [Int.add_mul] at h1
    exact ⟨Int.mul_nonneg hx.1 (by have := fmt_bd f; omega), by omega⟩
  have fb := fmt_bd f
  obtain ⟨k, hk, hbk, hk3⟩ := MM_pow f
  have o1 : bits .or .u32 (x * BB f) m = x * BB f + m := by
    refine or_join32 _ _ k hb.1 (by omega) hm.1 (by omega) (by omega) ?_
    rw [hbk]; exact Int.mul_emod_left _ _
  have o2 : bits .or .u32 (x * BB f + m) (TT f) = TT f + (x * BB f + m) := by
    rw [or_comm32]
    rcases fb.2.2.1 with h | h <;> rw [h] at hb ⊢
    · exact or_join32 _ _ 15 (by omega) (by omega) (by omega) (by omega) (by omega) (by omega)
    · exact or_join32 _ _ 31 (by omega) (by omega) (by omega) (by omega) (by omega) (by omega)
  have e1 : (2:Int) ^ (Min.min (Int.toNat (IntKind.wrap .u64 (MM f))) 32) = BB f := by
    rw [← nf_MM, ← nf_BB]; rcases nf_cases f with h | h | h <;> rw [h] <;> rfl
  have e2 : IntKind.wrap .u32 (1 * (2:Int) ^ (Min.min (Int.toNat (IntKind.wrap .u64 (IntKind.wrap .i64 (EE f + MM f)))) 32)) = TT f := by
    rw [← nf_MM, ← nf_EE, ← nf_TT]; rcases nf_cases f with h | h | h <;> rw [h] <;> rfl
  unfold F_96f sgn
  rw [wid_eq]
  simp only [Option.bind_some, e1, e2, wu64_nn, decide_true, cond_true]
  rw [wu32 (n := x) (by omega), wu32 (n := x * BB f) (by omega), o1, o2]
  cases neg
  · simp
  · simp [Int.add_assoc]
theorem inf_eq (f : Int) (neg : Bool) : F_940 f neg = some (sgn f neg + IN f) := by
  have fb := fmt_bd f
  unfold F_940
  rw [top_eq]
  simp only [Option.bind_some]
  rw [join_eq f neg (by omega) (by omega)]
  unfold IN; simp
theorem zero_eq (f : Int) (neg : Bool) : F_979 f neg = some (sgn f neg) := by
  have fb := fmt_bd f
  unfold F_979
  rw [join_eq f neg (by omega) (by omega)]
  simp
theorem great_eq (f : Int) (neg : Bool) : F_9a1 f neg = some (sgn f neg + (IN f - 1)) := by
  have fb := fmt_bd f
  have e1 : IntKind.wrap .u32 (IntKind.wrap .u32 (1 * (2:Int) ^ (Min.min (Int.toNat (IntKind.wrap .u64 (MM f))) 32)) - 1) = BB f - 1 := by
    rw [← nf_MM, ← nf_BB]; rcases nf_cases f with h | h | h <;> rw [h] <;> rfl
  unfold F_9a1
  rw [wid_eq, top_eq]
  simp only [Option.bind_some, e1, wu64_nn, decide_true, cond_true]
  rw [wi64 (by omega), join_eq f neg (by omega) (by omega)]
  unfold IN
  rw [show RR f - 1 - 1 = RR f - 1 + -1 by omega, Int.add_mul (RR f - 1)]
  simp only [Option.bind_some]
  congr 1; omega
theorem beyond_eq (f mode : Int) (neg : Bool) : F_994 f mode neg = some (overS f mode neg, (false, false, true, false, true, ()), ()) := by
  unfold F_994 overS
  rw [great_eq, inf_eq]
  simp only [bif_eq, Option.bind_some]
  by_cases h1 : mode = 1
  · rw [if_pos h1, if_pos (Or.inl h1)]
  by_cases h2 : mode = 2
  · subst h2; cases neg <;> simp
  by_cases h3 : mode = 3
  · subst h3; cases neg <;> simp
  · simp [h1, h2, h3]
theorem up_eq (mode : Int) (neg : Bool) {q : Int} (hq : w64 q) (half rest : Bool) (left : Int) (hl : left = (if half then (if rest then 3 else 2) else if rest then 1 else 0)) : F_993 mode neg q left = some (upS mode neg (decide (q % 2 = 1)) half rest) := by
  unfold F_993 upS
  rw [and1_64 hq]
  simp only [bif_eq]
  by_cases h1 : mode = 1
  · rw [if_pos h1, if_pos h1]
  rw [if_neg h1, if_neg h1]
  by_cases h2 : mode = 2
  · rw [if_pos h2, if_pos h2, hl]; cases neg <;> cases half <;> cases rest <;> rfl
  rw [if_neg h2, if_neg h2]
  by_cases h3 : mode = 3
  · rw [if_pos h3, if_pos h3, hl]; cases neg <;> cases half <;> cases rest <;> rfl
  rw [if_neg h3, if_neg h3]
  by_cases h4 : mode = 4
  · rw [if_pos h4, if_pos h4, hl]; cases half <;> cases rest <;> rfl
  rw [if_neg h4, if_neg h4, hl]
  cases half <;> cases rest <;> rfl
theorem upr_eq (mode : Int) (neg odd half rest : Bool) : F_95b mode neg odd half rest = some (upS mode neg odd half rest) := by
  unfold F_95b upS
  simp only [bif_eq]
  by_cases h1 : mode = 1
  · rw [if_pos h1, if_pos h1]
  rw [if_neg h1, if_neg h1]
  by_cases h2 : mode = 2
  · rw [if_pos h2, if_pos h2]; cases neg <;> cases half <;> cases rest <;> rfl
  rw [if_neg h2, if_neg h2]
  by_cases h3 : mode = 3
  · rw [if_pos h3, if_pos h3]; cases neg <;> cases half <;> cases rest <;> rfl
  rw [if_neg h3, if_neg h3]
  by_cases h4 : mode = 4
  · rw [if_pos h4, if_pos h4]
  rw [if_neg h4, if_neg h4]
  cases half <;> cases rest <;> cases odd <;> rfl
theorem unit_eq (f : Int) {e N : Int} (he : -20000 ≤ e ∧ e ≤ 20000) (hN : w64 N) : F_98a f e N = some (unitS f e N) := by
  have fb := fmt_bd f
  have lb := le_bd f
  have hl := ln_bd (k := 64) hN.1 (by have : (2 : Int) ^ 64 = 18446744073709551616 := rfl; omega)
  unfold F_98a unitS
  rw [wid_eq, least_eq, len_eq hN]
  simp only [Option.bind_some, bif_dec, mx_eq]
  by_cases h : N = 0
  · rw [if_neg (by omega), if_pos h, wi64 (by omega)]
  · rw [if_pos (by omega), if_neg h, wi64 (n := e + ln N) (by omega), wi64 (n := e + ln N - 1) (by omega), wi64 (by omega)]
def leftS (half rest : Bool) : Int := if half then (if rest then 3 else 2) else if rest then 1 else 0
theorem half_mod (N : Int) (b : Nat) (hN : 0 ≤ N) : N % 2 ^ (b + 1) = N % 2 ^ b + 2 ^ b * (N / 2 ^ b % 2) := by
  have := mod_p2 N b 1
  rwa [show (2 : Int) ^ 1 = 2 from rfl] at this
theorem units_eq {N b : Int} (hN : w64 N) (hb : -1000000 < b ∧ b < 1000000) (hq : qS N b < 18446744073709551616) (more : Bool) :
    F_992 N b more = some (qS N b, leftS (halfS N b) (restS N b more), ()) := by
  unfold F_992 qS halfS restS leftS
  unfold qS at hq
  rw [bif_dec]
  by_cases h : b ≤ 0
  · rw [if_pos h] at hq
    simp only [if_pos h]
    by_cases h0 : b = 0
    · subst h0
      rw [shr_eq hN (by omega)]
      cases more <;> simp
    · have := shl_eq hN (n := -b) (by omega) hq
      rw [Int.neg_neg] at this
      rw [this]
      cases more <;> simp
  · simp only [if_neg h]
    rw [shr_eq hN (by omega), wi64 (by omega), shr_eq hN (by omega)]
    have hd : w64 (N / 2 ^ (b - 1).toNat) := ⟨Int.ediv_nonneg hN.1 (by have := p2_pos (b - 1).toNat; omega), by
      have := Int.ediv_le_self (b := 2 ^ (b - 1).toNat) hN.1; have := hN.2; omega⟩
    simp only [Option.bind_some]
    rw [and1_64 hd]
    have e := half_mod N (b - 1).toNat hN.1
    rw [show (b - 1).toNat + 1 = b.toNat by omega] at e
    have hm := Int.emod_nonneg N (show (2 : Int) ^ (b - 1).toNat ≠ 0 by have := p2_pos (b - 1).toNat; omega)
    have hp := p2_pos (b - 1).toNat
    rw [e]
    generalize N % 2 ^ (b - 1).toNat = r at *
    generalize N / 2 ^ (b - 1).toNat = d at *
    generalize (2 : Int) ^ (b - 1).toNat = P at *
    rcases (show d % 2 = 0 ∨ d % 2 = 1 by omega) with g | g
    · rw [g]
      by_cases hr : r = 0
      · subst hr; cases more <;> simp
      · cases more <;> simp [hr]
    · rw [g]
      have : ¬ (r + P = 0) := by omega
      have t : ¬ (P = 0) := by omega
      by_cases hr : r = 0
      · subst hr; cases more <;> simp [t]
      · cases more <;> simp [this, hr]
theorem cut_eq (f : Int) {q : Int} (hq : w64 q) : F_98b q (MM f) = some (q % BB f) := by
  obtain ⟨k, hk, hb, hk3⟩ := MM_pow f
  unfold F_98b
  have e1 : IntKind.wrap .u64 (IntKind.wrap .u64 (1 * (2:Int) ^ (Min.min (Int.toNat (IntKind.wrap .u64 (MM f))) 64)) - 1) = BB f - 1 := by
    rw [← nf_MM, ← nf_BB]; rcases nf_cases f with h | h | h <;> rw [h] <;> rfl
  rw [e1]
  simp only [wu64_nn, decide_true, cond_true, bif_dec]
  rw [if_neg (by omega), if_neg (by omega)]
  have e2 : bits .and .u64 q (BB f - 1) = q % BB f := by
    have fb := fmt_bd f
    rw [Go.u64_and q _ hq.1 hq.2 (by omega) (by omega)]
    have h5 : (BB f - 1).toNat = 2 ^ k - 1 := by
      have := pow_toNat k; rw [hb]; omega
    rw [h5, Nat.and_two_pow_sub_one_eq_mod, hb]
    have : q = ((q.toNat : Nat) : Int) := by have := hq.1; omega
    rw [this]; simp
  rw [e2]
theorem pack_eq (f mode : Int) (neg : Bool) (e0 : Int) {N : Int} (hN : w64 N) (more : Bool) :
    F_961 f mode neg e0 N more = some (pk f mode neg (min (max e0 (-10000)) 10000) N more) := by
  have fb := fmt_bd f
  have lb := le_bd f
  have he : -10000 ≤ min (max e0 (-10000)) 10000 ∧ min (max e0 (-10000)) 10000 ≤ 10000 := by omega
  unfold F_961
  rw [mn_eq, mx_eq]
  generalize min (max e0 (-10000)) 10000 = e at *
  have hl := ln_bd (k := 64) hN.1 (by have : (2 : Int) ^ 64 = 18446744073709551616 := rfl; have := hN.2; omega)
  have hqb := q_bd f e N hN.1
  have hub : -20000 ≤ unitS f e N ∧ unitS f e N ≤ 20000 := by unfold unitS; split <;> omega
  have p1 : (2:Int) ^ (Min.min (Int.toNat (IntKind.wrap .u64 (MM f))) 64) = BB f := by
    rw [← nf_MM, ← nf_BB]; rcases nf_cases f with h | h | h <;> rw [h] <;> rfl
  have p2 : (2:Int) ^ (Min.min (Int.toNat (IntKind.wrap .u64 (IntKind.wrap .i64 (MM f + 1)))) 64) = 2 * BB f := by
    rw [← nf_MM, ← nf_BB]; rcases nf_cases f with h | h | h <;> rw [h] <;> rfl
  have hun := units_eq (N := N) (b := unitS f e N - e) hN (by omega) (by omega) more
  by_cases h0 : N = 0 ∧ more = false
  · unfold pk; rw [if_pos h0, h0.1, h0.2, zero_eq]; rfl
  have hpk : pk f mode neg e N more = fin2 f mode neg (unitS f e N) (fin1 mode neg (qS N (unitS f e N - e)) (halfS N (unitS f e N - e)) (restS N (unitS f e N - e) more)) (halfS N (unitS f e N - e)) (restS N (unitS f e N - e) more) (smallS f e N) := by
    unfold pk; rw [if_neg h0]
  rw [hpk]
  simp only [wid_eq, unit_eq f (show -20000 ≤ e ∧ e ≤ 20000 by omega) hN, Option.bind_some, wi64 (n := unitS f e N - e) (by omega), hun, zero_eq, least_eq, len_eq hN, top_eq, p1, p2, wu64_nn, decide_true, cond_true]
  have hul : le f - MM f ≤ unitS f e N := by unfold unitS; split <;> omega
  have hup := up_eq mode neg (q := qS N (unitS f e N - e)) ⟨hqb.1, by omega⟩ (halfS N (unitS f e N - e)) (restS N (unitS f e N - e) more) (leftS (halfS N (unitS f e N - e)) (restS N (unitS f e N - e) more)) rfl
  unfold fin1
  generalize qS N (unitS f e N - e) = q at *
  generalize halfS N (unitS f e N - e) = half at *
  generalize restS N (unitS f e N - e) more = rest at *
  have hsm : smallS f e N = (if N = 0 then true else decide (e + ln N - 1 < le f)) := by
    unfold smallS
    by_cases hN0 : N = 0
    · simp [hN0]
    · simp [hN0]
  rw [hsm]
  generalize unitS f e N = u at *
  simp only [hup, Option.bind_some, wu64 (n := q + 1) (show 0 ≤ q + 1 ∧ q + 1 ≤ 18446744073709551615 by omega), beyond_eq]
  generalize upS mode neg (decide (q % 2 = 1)) half rest = b
  have hx : (bif b then q + 1 else q) = (if b = true then q + 1 else q) := by cases b <;> rfl
  simp only [hx]
  have hq1b : 0 ≤ (if b = true then q + 1 else q) ∧ (if b = true then q + 1 else q) ≤ 2 * BB f := by split <;> omega
  generalize (if b = true then q + 1 else q) = q1 at *
  have hc : (bif q1 / (2 * BB f) != 0 then q1 / 2 else q1) = (if q1 / (2 * BB f) = 0 then q1 else q1 / 2) := bif_ne
  have hc2 : (bif q1 / (2 * BB f) != 0 then IntKind.i64.wrap (u + 1) else u) = (if q1 / (2 * BB f) = 0 then u else u + 1) := by rw [wi64 (by omega)]; exact bif_ne
  simp only [hc, hc2]
  unfold fin2
  have hq2 : 0 ≤ (if q1 / (2 * BB f) = 0 then q1 else q1 / 2) ∧ (if q1 / (2 * BB f) = 0 then q1 else q1 / 2) < 2 * BB f := by
    rcases fb.2.1 with h | h | h <;> rw [h] at hq1b ⊢ <;> split <;> omega
  have hu2 : le f - MM f ≤ (if q1 / (2 * BB f) = 0 then u else u + 1) ∧ (if q1 / (2 * BB f) = 0 then u else u + 1) ≤ 20001 := by split <;> omega
  generalize (if q1 / (2 * BB f) = 0 then q1 else q1 / 2) = q2 at *
  generalize (if q1 / (2 * BB f) = 0 then u else u + 1) = u2 at *
  have hat : (bif q2 / BB f == 0 then (0 : Int) else IntKind.i64.wrap (IntKind.i64.wrap (IntKind.i64.wrap (u2 + MM f) - le f) + 1)) = (if q2 / BB f = 0 then 0 else u2 + MM f - le f + 1) := by
    rw [wi64 (n := u2 + MM f) (by omega), wi64 (n := u2 + MM f - le f) (by omega), wi64 (by omega)]; exact bif_eq
  simp only [hat]
  have hab : 0 ≤ (if q2 / BB f = 0 then 0 else u2 + MM f - le f + 1) := by split <;> omega
  generalize (if q2 / BB f = 0 then 0 else u2 + MM f - le f + 1) = a at *
  have hr : 0 ≤ q2 % BB f ∧ q2 % BB f < BB f := by
    rcases fb.2.1 with h | h | h <;> rw [h] <;> omega
  have hls : (leftS half rest != 0) = (half || rest) := by cases half <;> cases rest <;> rfl
  simp only [cut_eq f (show w64 q2 from ⟨hq2.1, by omega⟩), Option.bind_some, wu32 (n := q2 % BB f) (show 0 ≤ q2 % BB f ∧ q2 % BB f ≤ 4294967295 by omega), hls, bif_dec, bif_eq]
  rw [wi64 (n := e + ln N) (by omega), wi64 (by omega)]
  by_cases ho : a ≥ RR f - 1
  · rw [if_pos ho, if_pos ho]
    by_cases hN0 : N = 0
    · have : more = true := by cases more; exact absurd ⟨hN0, rfl⟩ h0; rfl
      rw [if_pos hN0, this]; rfl
    · rw [if_neg hN0]
  · rw [if_neg ho, if_neg ho, join_eq f neg ⟨hab, by omega⟩ hr]
    simp only [Option.bind_some]
    by_cases hN0 : N = 0
    · have : more = true := by cases more; exact absurd ⟨hN0, rfl⟩ h0; rfl
      rw [if_pos hN0, if_pos hN0, if_pos hN0, this]
      cases half <;> cases rest <;> rfl
    · simp only [if_neg hN0]
      cases half <;> cases rest <;> simp
theorem signr_eq' (f : Int) (neg : Bool) : F_938 f neg = some (sgn f neg) := signr_eq f neg
theorem zeror_w (f : Int) (neg : Bool) : F_91a f neg = some (sgn f neg) := by
  unfold F_91a; rw [signr_eq']; rfl
theorem IN_bd (f : Int) : 0 < IN f ∧ IN f + BB f = TT f ∧ IN f % BB f = 0 := by
  unfold IN; rcases tri f with rfl | rfl | ⟨h, h'⟩ <;> simp [TT, RR, BB, *]
theorem sgn_or (f : Int) (neg : Bool) {x : Int} (hx : 0 ≤ x ∧ x < TT f) : bits .or .u32 (sgn f neg) x = sgn f neg + x := by
  have fb := fmt_bd f
  unfold sgn
  cases neg
  · rw [if_neg (by simp), or_comm32, or_zero32 _ hx.1 (by omega)]; omega
  · rw [if_pos rfl]
    rcases fb.2.2.1 with h | h <;> rw [h] at hx ⊢
    · exact or_join32 _ _ 15 (by omega) (by omega) (by omega) (by omega) (by omega) (by omega)
    · exact or_join32 _ _ 31 (by omega) (by omega) (by omega) (by omega) (by omega) (by omega)
theorem infr_eq (f : Int) (neg : Bool) : F_92e f neg = some (sgn f neg + IN f) := by
  have fb := fmt_bd f
  have ib := IN_bd f
  unfold F_92e
  rw [signr_eq', widr_eq]
  have e1 : IntKind.wrap .u32 (IntKind.wrap .u32 (IntKind.wrap .u32 (1 * (2:Int) ^ (Min.min (Int.toNat (EE f)) 32)) - 1) * (2:Int) ^ (Min.min (Int.toNat (MM f)) 32)) = IN f := by
    unfold IN
    rw [← nf_EE, ← nf_MM, ← nf_RR, ← nf_BB]; rcases nf_cases f with h | h | h <;> rw [h] <;> rfl
  have e2 : 0 ≤ EE f := by unfold EE; split <;> omega
  simp only [Option.bind_some, e1]
  rw [bif_dec, if_pos e2, bif_dec, if_pos (by omega), sgn_or f neg (by omega)]
theorem sgn_bd (f : Int) (neg : Bool) : sgn f neg = 0 ∨ sgn f neg = TT f := by unfold sgn; cases neg <;> simp
theorem greatr_eq (f : Int) (neg : Bool) : F_98d f neg = some (sgn f neg + (IN f - 1)) := by
  have fb := fmt_bd f
  have ib := IN_bd f
  have sb := sgn_bd f neg
  unfold F_98d
  rw [infr_eq]
  simp only [Option.bind_some]
  rw [wu32 (by omega)]
  congr 1; omega
theorem overr_eq (f mode : Int) (neg : Bool) : F_95c f mode neg = some (overS f mode neg) := by
  unfold F_95c overS
  rw [greatr_eq, infr_eq]
  simp only [bif_eq, Option.bind_some]
  by_cases h1 : mode = 1
  · rw [if_pos h1, if_pos (Or.inl h1)]
  by_cases h2 : mode = 2
  · subst h2; cases neg <;> simp
  by_cases h3 : mode = 3
  · subst h3; cases neg <;> simp
  · simp [h1, h2, h3]
theorem divide_eq {N b : Int} (hN : w64 N) (hb : -1000000 < b ∧ b < 1000000) (hq : qS N b < 18446744073709551616) :
    F_95a N b = some (qS N b, halfS N b, restS N b false, ()) := by
  unfold F_95a qS halfS restS
  unfold qS at hq
  rw [bif_dec, mn_eq, wi64 (by omega)]
  by_cases h : b ≤ 0
  · rw [if_pos h] at hq
    simp only [if_pos h]
    rw [bif_dec, if_pos (by omega), Nat.min_eq_left (by omega)]
    by_cases h63 : -b ≤ 63
    · rw [show min (0 - b) 63 = -b by omega, wu64 ⟨Int.mul_nonneg hN.1 (by have := p2_pos (-b).toNat; omega), by omega⟩]; rfl
    · have : N = 0 := by
        apply Int.le_antisymm ?_ hN.1
        apply Int.not_lt.1; intro hp
        have := p2_le (show 64 ≤ (-b).toNat by omega)
        rw [show (2 : Int) ^ 64 = 18446744073709551616 from rfl] at this
        have : 1 * 2 ^ (-b).toNat ≤ N * 2 ^ (-b).toNat := Int.mul_le_mul_of_nonneg_right (by omega) (by omega)
        omega
      subst this; simp; rfl
  · simp only [if_neg h]
    rw [bif_dec]
    by_cases h64 : b > 64
    · have b1 := p2_big hN.1 hN.2 (show 64 ≤ b.toNat by omega)
      have b2 := p2_big hN.1 hN.2 (show 64 ≤ (b - 1).toNat by omega)
      rw [if_pos h64, b1.1, b2.1, b2.2]
      have : (N != 0) = decide (N ≠ 0) := by rw [Bool.eq_iff_iff]; simp
      rw [this]; simp
    · rw [if_neg h64, shrr_eq hN (by omega), wi64 (by omega), shrr_eq hN (by omega)]
      have hd : w64 (N / 2 ^ (b - 1).toNat) := ⟨Int.ediv_nonneg hN.1 (by have := p2_pos (b - 1).toNat; omega), by
        have := Int.ediv_le_self (b := 2 ^ (b - 1).toNat) hN.1; have := hN.2; omega⟩
      simp only [Option.bind_some]
      rw [and1_64 hd]
      rfl
noncomputable def TR (f mode : Int) (neg half rest inex small : Bool) (u q n b : Int) : Option (Int × ExcT × Unit) :=
  (F_95b mode neg (bits .and .u64 q 1 == 1) half rest).bind fun r =>
  let k0 : Int := bif r then IntKind.wrap .u64 (q + 1) else q
  let c : Bool := k0 == IntKind.wrap .u64 ((1:Int) * ((2:Int) ^ (Min.min (Int.toNat (IntKind.wrap .i64 (n + 1))) 64)))
  let k : Int := bif c then k0 / 2 else k0
  bif decide (0 ≤ IntKind.wrap .i64 (n + 1)) then
    bif decide (0 ≤ n) then
      bif decide (k < IntKind.wrap .u64 ((1:Int) * ((2:Int) ^ (Min.min (Int.toNat n) 64)))) then
        (F_938 f neg).bind fun s =>
        some (bits .or .u32 s (IntKind.wrap .u32 k), (false, false, false, inex && small, inex, ()), ())
      else
        (F_94c f).bind fun b =>
        (F_919 f).bind fun w =>
        bif decide (0 ≤ w.1) then
          bif decide (IntKind.wrap .i64 (IntKind.wrap .i64 ((bif c then IntKind.wrap .i64 (u + 1) else u) + n) + b) ≥ IntKind.wrap .i64 (IntKind.wrap .i64 ((1:Int) * ((2:Int) ^ (Min.min (Int.toNat w.1) 64))) - 1)) then
            (F_95c f mode neg).bind fun r => some (r, (false, false, true, false, true, ()), ())
          else
            (F_938 f neg).bind fun s =>
            bif decide (0 ≤ n) then
              bif decide (0 ≤ n) then
                some (bits .or .u32 (bits .or .u32 s (IntKind.wrap .u32 (IntKind.wrap .u32 (IntKind.wrap .i64 (IntKind.wrap .i64 ((bif c then IntKind.wrap .i64 (u + 1) else u) + n) + b)) * ((2:Int) ^ (Min.min (Int.toNat n) 32))))) (IntKind.wrap .u32 (bits .and .u64 k (IntKind.wrap .u64 (IntKind.wrap .u64 ((1:Int) * ((2:Int) ^ (Min.min (Int.toNat n) 64))) - 1)))), (false, false, false, inex && small, inex, ()), ())
              else none
            else none
        else none
    else none
  else none
theorem packr_un (f mode : Int) (neg : Bool) (e0 : Int) {N : Int} (hN : w64 N) (more : Bool) (h0 : ¬ (N = 0 ∧ more = false)) (e u least : Int) (he : mn (mx e0 (-(10000:Int))) 10000 = e) (hl : IntKind.wrap .i64 (1 - (1 - le f)) = least)
    (hu : IntKind.wrap .i64 (mx (bif N == 0 then -(20000:Int) else IntKind.wrap .i64 (IntKind.wrap .i64 (e + ln N) - 1)) least - MM f) = u)
    (q : Int) (half rest0 : Bool) (hd : F_95a N (IntKind.wrap .i64 (u - e)) = some (q, half, rest0, ())) :
    F_930 f mode neg e0 N more = TR f mode neg half (rest0 || more) (half || (rest0 || more)) (decide ((bif N == 0 then -(20000:Int) else IntKind.wrap .i64 (IntKind.wrap .i64 (e + ln N) - 1)) < least)) u q (MM f) (1 - le f) := by
  unfold F_930
  simp only [he, widr_eq, bias_eq, lenr_eq hN, Option.bind_some, hl, hu, hd]
  unfold TR
  simp only [widr_eq, bias_eq, Option.bind_some]
  cases more
  · cases hz : N == 0
    · cases half <;> cases rest0 <;> rfl
    · exact absurd ⟨by simpa using hz, rfl⟩ h0
  · cases hz : N == 0
    · cases half <;> cases rest0 <;> rfl
    · cases half <;> cases rest0 <;> rfl
theorem tr_eq (f mode : Int) (neg half rest inex small : Bool) {u q : Int} (hq : 0 ≤ q ∧ q < 2 * BB f) (hu : le f - MM f ≤ u ∧ u ≤ 20000) (hi : inex = (half || rest)) :
    TR f mode neg half rest inex small u q (MM f) (1 - le f) = some (fin2 f mode neg u (fin1 mode neg q half rest) half rest small) := by
  have fb := fmt_bd f
  have lb := le_bd f
  unfold TR
  have q64 : w64 q := ⟨hq.1, by omega⟩
  have e1 : IntKind.wrap .u64 ((1:Int) * ((2:Int) ^ (Min.min (Int.toNat (IntKind.wrap .i64 (MM f + 1))) 64))) = 2 * BB f := by
    rw [← nf_MM, ← nf_BB]; rcases nf_cases f with h | h | h <;> rw [h] <;> rfl
  have e2 : IntKind.wrap .u64 ((1:Int) * ((2:Int) ^ (Min.min (Int.toNat (MM f)) 64))) = BB f := by
    rw [← nf_MM, ← nf_BB]; rcases nf_cases f with h | h | h <;> rw [h] <;> rfl
  have e3 : (2:Int) ^ (Min.min (Int.toNat (MM f)) 32) = BB f := by
    rw [← nf_MM, ← nf_BB]; rcases nf_cases f with h | h | h <;> rw [h] <;> rfl
  have e4 : IntKind.wrap .i64 (IntKind.wrap .i64 ((1:Int) * ((2:Int) ^ (Min.min (Int.toNat (EE f)) 64))) - 1) = RR f - 1 := by
    rw [← nf_EE, ← nf_RR]; rcases nf_cases f with h | h | h <;> rw [h] <;> rfl
  have e5 : IntKind.wrap .u64 (BB f - 1) = BB f - 1 := wu64 (by omega)
  have e6 : 0 ≤ EE f := by unfold EE; split <;> omega
  have hodd : (bits .and .u64 q 1 == 1) = decide (q % 2 = 1) := by rw [and1_64 q64]; rfl
  simp only [hodd, upr_eq, Option.bind_some, e1, e2, e3, e5, widr_eq, bias_eq, e4, signr_eq', overr_eq, wu64 (n := q + 1) (show 0 ≤ q + 1 ∧ q + 1 ≤ 18446744073709551615 by omega)]
  simp only [wi64 (n := MM f + 1) (show -9223372036854775808 ≤ MM f + 1 ∧ MM f + 1 ≤ 9223372036854775807 by omega), bif_dec]
  rw [if_pos (show 0 ≤ MM f + 1 by omega), if_pos (show 0 ≤ MM f by omega)]
  simp only [if_pos (show 0 ≤ MM f by omega), if_pos e6]
  unfold fin1
  generalize upS mode neg (decide (q % 2 = 1)) half rest = b
  have hx : (bif b then q + 1 else q) = (if b = true then q + 1 else q) := by cases b <;> rfl
  simp only [hx]
  have hq1b : 0 ≤ (if b = true then q + 1 else q) ∧ (if b = true then q + 1 else q) ≤ 2 * BB f := by split <;> omega
  generalize (if b = true then q + 1 else q) = q1 at *
  unfold fin2
  have hcar : (q1 == 2 * BB f) = decide (¬ q1 / (2 * BB f) = 0) := by
    rw [Bool.eq_iff_iff]; simp
    rcases fb.2.1 with h | h | h <;> rw [h] at hq1b ⊢ <;> omega
  simp only [hcar]
  have hk : (bif decide (¬ q1 / (2 * BB f) = 0) then q1 / 2 else q1) = (if q1 / (2 * BB f) = 0 then q1 else q1 / 2) := by
    rw [bif_dec]; by_cases c : q1 / (2 * BB f) = 0 <;> simp [c]
  have hu2 : (bif decide (¬ q1 / (2 * BB f) = 0) then IntKind.i64.wrap (u + 1) else u) = (if q1 / (2 * BB f) = 0 then u else u + 1) := by
    rw [bif_dec, wi64 (by omega)]; by_cases c : q1 / (2 * BB f) = 0 <;> simp [c]
  simp only [hk, hu2]
  have hq2 : 0 ≤ (if q1 / (2 * BB f) = 0 then q1 else q1 / 2) ∧ (if q1 / (2 * BB f) = 0 then q1 else q1 / 2) < 2 * BB f := by
    rcases fb.2.1 with h | h | h <;> rw [h] at hq1b ⊢ <;> split <;> omega
  have hub : le f - MM f ≤ (if q1 / (2 * BB f) = 0 then u else u + 1) ∧ (if q1 / (2 * BB f) = 0 then u else u + 1) ≤ 20001 := by split <;> omega
  generalize (if q1 / (2 * BB f) = 0 then q1 else q1 / 2) = q2 at *
  generalize (if q1 / (2 * BB f) = 0 then u else u + 1) = u2 at *
  have sb := sgn_bd f neg
  have ex : (inex && small) = ((half || rest) && small) := by rw [hi]
  rw [ex, hi]
  have hlt : q2 < BB f ↔ q2 / BB f = 0 := by
    rcases fb.2.1 with h | h | h <;> rw [h] at hq2 ⊢ <;> omega
  have hm : 0 ≤ q2 % BB f ∧ q2 % BB f < BB f ∧ (q2 < BB f → q2 % BB f = q2) := by
    rcases fb.2.1 with h | h | h <;> rw [h] at hq2 ⊢ <;> omega
  have hTB : BB f < TT f := by have := IN_bd f; omega
  by_cases c : q2 < BB f
  · rw [if_pos c, if_pos (hlt.1 c), if_neg (by omega), wu32 (by omega), sgn_or f neg ⟨hq2.1, by omega⟩, hm.2.2 c]
    simp
  · rw [if_neg c, if_neg (fun k => c (hlt.2 k)), wi64 (n := u2 + MM f) (by omega), wi64 (by omega)]
    by_cases o : u2 + MM f + (1 - le f) ≥ RR f - 1
    · rw [if_pos o, if_pos (by omega)]
    · rw [if_neg o, if_neg (by omega)]
      have eq2 : bits .and .u64 q2 (BB f - 1) = q2 % BB f := by
        obtain ⟨k, hk, hb, hk3⟩ := MM_pow f
        rw [Go.u64_and q2 _ hq2.1 (by omega) (by omega) (by omega)]
        have h5 : (BB f - 1).toNat = 2 ^ k - 1 := by
          have := pow_toNat k; rw [hb]; omega
        rw [h5, Nat.and_two_pow_sub_one_eq_mod, hb]
        have : q2 = ((q2.toNat : Nat) : Int) := by have := hq2.1; omega
        rw [this]; simp
      have ha : u2 + MM f + (1 - le f) = u2 + MM f - le f + 1 := by omega
      rw [ha]
      have hab : 0 ≤ u2 + MM f - le f + 1 ∧ u2 + MM f - le f + 1 < RR f := by omega
      rw [ha] at o
      generalize u2 + MM f - le f + 1 = a at *
      have hb : 0 ≤ a * BB f ∧ a * BB f + BB f ≤ TT f := by
        rw [TT_RB]
        have h1 : (a + 1) * BB f ≤ RR f * BB f := Int.mul_le_mul_of_nonneg_right (by omega) (by omega)
        rw [Int.add_mul] at h1
        exact ⟨Int.mul_nonneg hab.1 (by omega), by omega⟩
      rw [wu32 (n := a) (by omega), wu32 (n := a * BB f) (by omega), eq2, wu32 (by omega), sgn_or f neg ⟨hb.1, by omega⟩]
      have o1 : bits .or .u32 (sgn f neg + a * BB f) (q2 % BB f) = sgn f neg + a * BB f + q2 % BB f := by
        obtain ⟨k, hk, hbk, hk3⟩ := MM_pow f
        refine or_join32 _ _ k (by omega) (by omega) hm.1 (by omega) (by omega) ?_
        rw [← hbk]
        have t1 : sgn f neg % BB f = 0 := by rcases sb with h | h <;> rw [h]; · simp
                                             · rw [TT_RB]; exact Int.mul_emod_left _ _
        rw [Int.add_emod, t1, Int.mul_emod_left]; simp
      rw [o1]
theorem packr_eq (f mode : Int) (neg : Bool) (e0 : Int) {N : Int} (hN : w64 N) (more : Bool) :
    F_930 f mode neg e0 N more = some (pk f mode neg (min (max e0 (-10000)) 10000) N more) := by
  have fb := fmt_bd f
  have lb := le_bd f
  have he : -10000 ≤ min (max e0 (-10000)) 10000 ∧ min (max e0 (-10000)) 10000 ≤ 10000 := by omega
  have hen : mn (mx e0 (-(10000:Int))) 10000 = min (max e0 (-10000)) 10000 := by rw [mn_eq, mx_eq]
  generalize min (max e0 (-10000)) 10000 = e at *
  by_cases h0 : N = 0 ∧ more = false
  · unfold pk; rw [if_pos h0]; rw [h0.1, h0.2]; unfold F_930; rw [zeror_w]; rfl
  have hl := ln_bd (k := 64) hN.1 (by have : (2 : Int) ^ 64 = 18446744073709551616 := rfl; have := hN.2; omega)
  have hqb := q_bd f e N hN.1
  have hul : le f - MM f ≤ unitS f e N ∧ unitS f e N ≤ 20000 := by unfold unitS; split <;> omega
  have w1 : IntKind.wrap .i64 (e + ln N) = e + ln N := wi64 (by omega)
  have w2 : IntKind.wrap .i64 (e + ln N - 1) = e + ln N - 1 := wi64 (by omega)
  rw [packr_un f mode neg e0 hN more h0 e (unitS f e N) (le f) hen (by rw [wi64 (by omega)]; omega) (by
      rw [w1, w2, bif_eq, mx_eq]
      unfold unitS
      by_cases hz : N = 0
      · rw [if_pos hz, if_pos hz, wi64 (by omega)]; omega
      · rw [if_neg hz, if_neg hz, wi64 (by omega)]; omega)
    (qS N (unitS f e N - e)) (halfS N (unitS f e N - e)) (restS N (unitS f e N - e) false)
    (by rw [wi64 (by omega)]; exact divide_eq hN (by omega) (by omega))]
  have hr : (restS N (unitS f e N - e) false || more) = restS N (unitS f e N - e) more := by unfold restS; cases more <;> simp
  rw [hr, tr_eq f mode neg _ _ _ _ hqb hul rfl]
  have hsm : decide ((bif N == 0 then -(20000:Int) else IntKind.wrap .i64 (IntKind.wrap .i64 (e + ln N) - 1)) < le f) = smallS f e N := by
    rw [w1, w2, bif_eq]; unfold smallS
    rw [Bool.eq_iff_iff]; simp
    split <;> omega
  rw [hsm]
  unfold pk; rw [if_neg h0]
theorem mul_p2_div (N : Int) (a b : Nat) (h : b ≤ a) : N * 2 ^ a / 2 ^ b = N * 2 ^ (a - b) := by
  have e : (2 : Int) ^ a = 2 ^ (a - b) * 2 ^ b := by rw [← p2_add]; congr 1; omega
  have := p2_pos b
  rw [e, ← Int.mul_assoc, Int.mul_ediv_cancel _ (by omega)]
theorem mul_p2_div' (N : Int) (a b : Nat) (h : a ≤ b) : N * 2 ^ a / 2 ^ b = N / 2 ^ (b - a) := by
  have e : (2 : Int) ^ b = 2 ^ (b - a) * 2 ^ a := by rw [← p2_add]; congr 1; omega
  have := p2_pos a
  rw [e, Int.mul_comm N, Int.mul_comm (2 ^ (b - a)), Int.mul_ediv_mul_of_pos _ _ this]
theorem mul_p2_mod (N : Int) (a b : Nat) (h : b ≤ a) : N * 2 ^ a % 2 ^ b = 0 := by
  have e : (2 : Int) ^ a = 2 ^ (a - b) * 2 ^ b := by rw [← p2_add]; congr 1; omega
  rw [e, ← Int.mul_assoc, Int.mul_emod_left]
theorem mul_p2_mod' (N : Int) (a b : Nat) (h : a ≤ b) : N * 2 ^ a % 2 ^ b = 2 ^ a * (N % 2 ^ (b - a)) := by
  have e : (2 : Int) ^ b = 2 ^ (b - a) * 2 ^ a := by rw [← p2_add]; congr 1; omega
  have := p2_pos a
  rw [e, Int.mul_comm N, Int.mul_comm (2 ^ (b - a)), Int.mul_emod_mul_of_pos _ _ this]
theorem p2_even (N : Int) (k : Nat) (h : 1 ≤ k) : N * 2 ^ k % 2 = 0 := by
  have e : (2 : Int) ^ k = 2 ^ (k - 1) * 2 := by
    have := p2_succ (k - 1); rw [show k - 1 + 1 = k by omega] at this; omega
  rw [e, ← Int.mul_assoc, Int.mul_emod_left]
theorem qS_sh (N b : Int) (k : Nat) : qS (N * 2 ^ k) b = qS N (b - k) := by
  unfold qS
  by_cases h : b ≤ 0
  · rw [if_pos h, if_pos (by omega), Int.mul_assoc, ← p2_add]; congr 2; omega
  · rw [if_neg h]
    by_cases h2 : b ≤ k
    · rw [if_pos (by omega), mul_p2_div _ _ _ (by omega)]; congr 2; omega
    · rw [if_neg (by omega), mul_p2_div' _ _ _ (by omega)]; congr 2; omega
theorem halfS_sh (N b : Int) (k : Nat) : halfS (N * 2 ^ k) b = halfS N (b - k) := by
  unfold halfS
  by_cases h : b ≤ 0
  · rw [if_pos h, if_pos (by omega)]
  · rw [if_neg h]
    by_cases h2 : b ≤ k
    · rw [if_pos (by omega), mul_p2_div _ _ _ (by omega), p2_even _ _ (by omega)]; rfl
    · rw [if_neg (by omega), mul_p2_div' _ _ _ (by omega)]
      rw [show (b - 1).toNat - k = (b - k - 1).toNat by omega]
theorem restS_sh (N b : Int) (k : Nat) : restS (N * 2 ^ k) b false = restS N (b - k) false := by
  unfold restS
  by_cases h : b ≤ 0
  · rw [if_pos h, if_pos (by omega)]
  · rw [if_neg h]
    by_cases h2 : b ≤ k
    · rw [if_pos (by omega), mul_p2_mod _ _ _ (by omega)]; rfl
    · rw [if_neg (by omega), mul_p2_mod' _ _ _ (by omega)]
      rw [show (b - 1).toNat - k = (b - k - 1).toNat by omega]
      have := p2_pos k
      congr 1
      rw [Bool.eq_iff_iff]; simp
      intro _; omega
theorem unitS_sh (f e N : Int) (k : Nat) (hN : 0 < N) : unitS f e (N * 2 ^ k) = unitS f (e + k) N := by
  have p := p2_pos k
  have hp : 0 < N * 2 ^ k := Int.mul_pos hN p
  unfold unitS
  rw [if_neg (by omega), if_neg (by omega), ln_pos hp, ln_pos hN, lg_mul hN]
  congr 2; omega
theorem smallS_sh (f e N : Int) (k : Nat) (hN : 0 < N) : smallS f e (N * 2 ^ k) = smallS f (e + k) N := by
  have p := p2_pos k
  have hp : 0 < N * 2 ^ k := Int.mul_pos hN p
  unfold smallS
  rw [ln_pos hp, ln_pos hN, lg_mul hN]
  rw [Bool.eq_iff_iff]; simp; omega
theorem pk_shift (f mode : Int) (neg : Bool) (e N : Int) (k : Nat) (hN : 0 ≤ N) : pk f mode neg e (N * 2 ^ k) false = pk f mode neg (e + k) N false := by
  by_cases h0 : N = 0
  · subst h0; rw [Int.zero_mul]; unfold pk; rw [if_pos ⟨rfl, rfl⟩, if_pos ⟨rfl, rfl⟩]
  have hp : 0 < N := by omega
  have p := p2_pos k
  have hp2 : 0 < N * 2 ^ k := Int.mul_pos hp p
  unfold pk
  rw [if_neg (by omega), if_neg (by omega), unitS_sh _ _ _ _ hp, smallS_sh _ _ _ _ hp, qS_sh, halfS_sh, restS_sh]
  rw [show unitS f (e + k) N - e - k = unitS f (e + k) N - (e + k) by omega]
theorem pk_coarse (f mode : Int) (neg : Bool) (e N : Int) (k : Nat) (more : Bool) (h : 2 * BB f ≤ N / 2 ^ k) :
    pk f mode neg (e + k) (N / 2 ^ k) (more || decide (N % 2 ^ k ≠ 0)) = pk f mode neg e N more := by
  obtain ⟨m, hm, hb, hm3⟩ := MM_pow f
  have p := p2_pos k
  have pm := p2_pos m
  have hq : 0 < N / 2 ^ k := by omega
  have hk : 2 ^ k ≤ N := by
    have := (Int.le_ediv_iff_mul_le p).1 (show 1 ≤ N / 2 ^ k by omega); omega
  have hp : 0 < N := by omega
  have l := lg_div hk
  have lb : m + 1 ≤ lg (N / 2 ^ k) := lg_ge (by rw [p2_succ, ← hb]; exact h)
  have hu : unitS f (e + k) (N / 2 ^ k) = unitS f e N := by
    unfold unitS
    rw [if_neg (by omega), if_neg (by omega), ln_pos hp, ln_pos hq, l.1]; congr 2; omega
  have hs : smallS f (e + k) (N / 2 ^ k) = smallS f e N := by
    unfold smallS
    rw [ln_pos hp, ln_pos hq, l.1]
    rw [Bool.eq_iff_iff]; simp; omega
  have hub : unitS f e N - e - k ≥ 1 := by
    unfold unitS
    rw [if_neg (by omega), ln_pos hp, hm]; omega
  unfold pk
  rw [if_neg (by omega), if_neg (by omega), hu, hs, show unitS f e N - (e + k) = unitS f e N - e - k by omega]
  generalize unitS f e N - e = b at *
  have q1 : qS (N / 2 ^ k) (b - k) = qS N b := by
    unfold qS; rw [if_neg (by omega), if_neg (by omega), div_p2]; congr 2; omega
  have h1 : halfS (N / 2 ^ k) (b - k) = halfS N b := by
    unfold halfS; rw [if_neg (by omega), if_neg (by omega), div_p2]
    rw [show k + (b - k - 1).toNat = (b - 1).toNat by omega]
  have r1 : restS (N / 2 ^ k) (b - k) (more || decide (N % 2 ^ k ≠ 0)) = restS N b more := by
    unfold restS; rw [if_neg (by omega), if_neg (by omega)]
    have e := mod_p2 N k (b - k - 1).toNat
    rw [show k + (b - k - 1).toNat = (b - 1).toNat by omega] at e
    rw [e]
    have n1 := Int.emod_nonneg N (show (2 : Int) ^ k ≠ 0 by omega)
    have n2 := Int.emod_nonneg (N / 2 ^ k) (show (2 : Int) ^ (b - k - 1).toNat ≠ 0 by have := p2_pos (b - k - 1).toNat; omega)
    generalize N / 2 ^ k % 2 ^ (b - k - 1).toNat = y at *
    generalize N % 2 ^ k = x at *
    generalize (2 : Int) ^ k = P at *
    have hy : 0 ≤ P * y := Int.mul_nonneg (by omega) n2
    by_cases hx : x = 0
    · by_cases hy0 : y = 0
      · subst hx; subst hy0; cases more <;> simp
      · have : 0 < P * y := Int.mul_pos p (by omega)
        have t : decide (x + P * y ≠ 0) = true := by simp; omega
        rw [t]; cases more <;> simp [hy0]
    · have t : decide (x + P * y ≠ 0) = true := by simp; omega
      rw [t]; cases more <;> simp [hx]
  rw [q1, h1, r1]
theorem pk_coarse' (f mode : Int) (neg : Bool) (e N : Int) (k : Nat) (h : 2 * BB f ≤ N / 2 ^ k) :
    pk f mode neg (e + k) (N / 2 ^ k) (decide (N % 2 ^ k ≠ 0)) = pk f mode neg e N false := by
  have := pk_coarse f mode neg e N k false h
  simpa using this
end Go.Proofs.YtkmkhcmfpbffjaaGreat.VI
