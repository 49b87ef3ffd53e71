import Derived.Test.YtkmkhcmfpbffjaaGreatTb3cd25f2
namespace Go.Proofs.YtkmkhcmfpbffjaaGreat.VI
set_option linter.unusedVariables false
set_option linter.unusedSimpArgs false
set_option maxRecDepth 100000
set_option maxHeartbeats 4000000
abbrev w64 (a : Int) : Prop := 0 ≤ a ∧ a < 18446744073709551616
theorem lenlist {y : Int} (h0 : 0 ≤ y) (h1 : y < 256) : F_970 y = some (ln y) := by
  have e : y = ((y.toNat : Nat) : Int) := by omega
  have : ∀ n : Nat, n < 256 → F_970 (n : Int) = some (ln (n : Int)) := by decide +kernel
  rw [e]; exact this _ (by omega)
def tbL : List UInt8 := [(0:UInt8), (1:UInt8), (2:UInt8), (2:UInt8), (3:UInt8), (3:UInt8), (3:UInt8), (3:UInt8), (4:UInt8), (4:UInt8), (4:UInt8), (4:UInt8), (4:UInt8), (4:UInt8), (4:UInt8), (4:UInt8), (5:UInt8), (5:UInt8), (5:UInt8), (5:UInt8), (5:UInt8), (5:UInt8), (5:UInt8), (5:UInt8), (5:UInt8), (5:UInt8), (5:UInt8), (5:UInt8), (5:UInt8), (5:UInt8), (5:UInt8), (5:UInt8), (6:UInt8), (6:UInt8), (6:UInt8), (6:UInt8), (6:UInt8), (6:UInt8), (6:UInt8), (6:UInt8), (6:UInt8), (6:UInt8), (6:UInt8), (6:UInt8), (6:UInt8), (6:UInt8), (6:UInt8), (6:UInt8), (6:UInt8), (6:UInt8), (6:UInt8), (6:UInt8), (6:UInt8), (6:UInt8), (6:UInt8), (6:UInt8), (6:UInt8), (6:UInt8), (6:UInt8), (6:UInt8), (6:UInt8), (6:UInt8), (6:UInt8), (6:UInt8), (7:UInt8), (7:UInt8), (7:UInt8), (7:UInt8), (7:UInt8), (7:UInt8), (7:UInt8), (7:UInt8), (7:UInt8), (7:UInt8), (7:UInt8), (7:UInt8), (7:UInt8), (7:UInt8), (7:UInt8), (7:UInt8), (7:UInt8), (7:UInt8), (7:UInt8), (7:UInt8), (7:UInt8), (7:UInt8), (7:UInt8), (7:UInt8), (7:UInt8), (7:UInt8), (7:UInt8), (7:UInt8), (7:UInt8), (7:UInt8), (7:UInt8), (7:UInt8), (7:UInt8), (7:UInt8), (7:UInt8), (7:UInt8), (7:UInt8), (7:UInt8), (7:UInt8), (7:UInt8), (7:UInt8), (7:UInt8), (7:UInt8), (7:UInt8), (7:UInt8), (7:UInt8), (7:UInt8), (7:UInt8), (7:UInt8), (7:UInt8), (7:UInt8), (7:UInt8), (7:UInt8), (7:UInt8), (7:UInt8), (7:UInt8), (7:UInt8), (7:UInt8), (7:UInt8), (7:UInt8), (7:UInt8), (7:UInt8), (7:UInt8), (7:UInt8), (8:UInt8), (8:UInt8), (8:UInt8), (8:UInt8), (8:UInt8), (8:UInt8), (8:UInt8), (8:UInt8), (8:UInt8), (8:UInt8), (8:UInt8), (8:UInt8), (8:UInt8), (8:UInt8), (8:UInt8), (8:UInt8), (8:UInt8), (8:UInt8), (8:UInt8), (8:UInt8), (8:UInt8), (8:UInt8), (8:UInt8), (8:UInt8), (8:UInt8), (8:UInt8), (8:UInt8), (8:UInt8), (8:UInt8), (8:UInt8), (8:UInt8), (8:UInt8), (8:UInt8), (8:UInt8), (8:UInt8), (8:UInt8), (8:UInt8), (8:UInt8), (8:UInt8), (8:UInt8), (8:UInt8), (8:UInt8), (8:UInt8), (8:UInt8), (8:UInt8), (8:UInt8), (8:UInt8), (8:UInt8), (8:UInt8), (8:UInt8), (8:UInt8), (8:UInt8), (8:UInt8), (8:UInt8), (8:UInt8), (8:UInt8), (8:UInt8), (8:UInt8), (8:UInt8), (8:UInt8), (8:UInt8), (8:UInt8), (8:UInt8), (8:UInt8), (8:UInt8), (8:UInt8), (8:UInt8), (8:UInt8), (8:UInt8), (8:UInt8), (8:UInt8), (8:UInt8), (8:UInt8), (8:UInt8), (8:UInt8), (8:UInt8), (8:UInt8), (8:UInt8), (8:UInt8), (8:UInt8), (8:UInt8), (8:UInt8), (8:UInt8), (8:UInt8), (8:UInt8), (8:UInt8), (8:UInt8), (8:UInt8), (8:UInt8), (8:UInt8), (8:UInt8), (8:UInt8), (8:UInt8), (8:UInt8), (8:UInt8), (8:UInt8), (8:UInt8), (8:UInt8), (8:UInt8), (8:UInt8), (8:UInt8), (8:UInt8), (8:UInt8), (8:UInt8), (8:UInt8), (8:UInt8), (8:UInt8), (8:UInt8), (8:UInt8), (8:UInt8), (8:UInt8), (8:UInt8), (8:UInt8), (8:UInt8), (8:UInt8), (8:UInt8), (8:UInt8), (8:UInt8), (8:UInt8), (8:UInt8), (8:UInt8), (8:UInt8), (8:UInt8), (8:UInt8), (8:UInt8), (8:UInt8), (8:UInt8), (8:UInt8)]
def tb (z : Int) : Int := ((UInt8.toNat (List.getD tbL (Int.toNat z) (0:UInt8)) : Nat) : Int)
theorem tb_bd (z : Int) : 0 ≤ tb z ∧ tb z < 256 := by
  have := (List.getD tbL (Int.toNat z) (0:UInt8)).toNat_lt
  unfold tb; omega
def lenF (x0 x1 x2 x3 x4 x5 : Int) : Option Int :=
  bif decide ((0:Int) ≤ IntKind.wrap .u8 x4 ∧ IntKind.wrap .u8 x4 < 256) then some (IntKind.wrap .i64 (x5 + IntKind.wrap .i64 (tb (IntKind.wrap .u8 x4)))) else none
theorem len_un (a0 : Int) : F_970 a0 =
  (fun (x0 x2 : Int) => (fun (x1 x3 : Int) => (fun (x4 x5 : Int) => lenF x0 x1 x2 x3 x4 x5) (bif (decide (x3 ≥ (256:Int))) then (x3 / (256:Int)) else x3) (bif (decide (x3 ≥ (256:Int))) then (IntKind.wrap .i64 (x1 + (8:Int))) else x1)) (bif (decide (x2 ≥ (65536:Int))) then (IntKind.wrap .i64 (x0 + (16:Int))) else x0) (bif (decide (x2 ≥ (65536:Int))) then (x2 / (65536:Int)) else x2)) (bif (decide (a0 ≥ (4294967296:Int))) then (32:Int) else (0:Int)) (bif (decide (a0 ≥ (4294967296:Int))) then (a0 / (4294967296:Int)) else a0) := rfl
theorem len_step (v : Int) (k m : Nat) (h0 : 0 ≤ v) (h1 : v < 2 ^ (k + m)) : ln v = (bif decide (v ≥ 2 ^ k) then (k : Int) else 0) + ln (bif decide (v ≥ 2 ^ k) then v / 2 ^ k else v) ∧ 0 ≤ (bif decide (v ≥ 2 ^ k) then v / 2 ^ k else v) ∧ (v ≥ 2 ^ k → (bif decide (v ≥ 2 ^ k) then v / 2 ^ k else v) < 2 ^ m) ∧ (¬ v ≥ 2 ^ k → (bif decide (v ≥ 2 ^ k) then v / 2 ^ k else v) < 2 ^ k) := by
  rw [bif_dec, bif_dec]
  have c := p2_pos k
  by_cases h : v ≥ 2 ^ k
  · rw [if_pos h, if_pos h]
    refine ⟨ln_div h, Int.ediv_nonneg h0 (by omega), fun _ => ?_, fun n => absurd h n⟩
    rw [Int.ediv_lt_iff_lt_mul c, Int.mul_comm, ← p2_add]; exact h1
  · rw [if_neg h, if_neg h]
    exact ⟨by omega, h0, fun n => absurd n h, fun _ => by omega⟩
theorem len_hi {v : Int} (h : w64 v) : F_970 v = some (ln v) := by
  have s1 := len_step v 32 32 h.1 (by have : (2 : Int) ^ (32 + 32) = 18446744073709551616 := rfl; omega)
  rw [len_un]
  rw [show (2 : Int) ^ 32 = 4294967296 from rfl] at s1
  have b0 : (bif decide (v ≥ 4294967296) then (32 : Int) else 0) = 0 ∨ (bif decide (v ≥ 4294967296) then (32 : Int) else 0) = 32 := by cases decide (v ≥ 4294967296) <;> simp
  rw [show ((32 : Nat) : Int) = 32 from rfl] at s1
  generalize (bif decide (v ≥ 4294967296) then (32 : Int) else 0) = x0 at *
  have b1 : (bif decide (v ≥ 4294967296) then v / 4294967296 else v) < 4294967296 := by
    by_cases e : v ≥ 4294967296
    · exact s1.2.2.1 e
    · exact s1.2.2.2 e
  have b2 := s1.2.1
  have s1 := s1.1
  generalize (bif decide (v ≥ 4294967296) then v / 4294967296 else v) = x2 at *
  show (fun (x1 x3 : Int) => (fun (x4 x5 : Int) => lenF x0 x1 x2 x3 x4 x5) _ _) _ _ = _
  have s2 := len_step x2 16 16 b2 (by have : (2 : Int) ^ (16 + 16) = 4294967296 := rfl; omega)
  rw [show (2 : Int) ^ 16 = 65536 from rfl, show ((16 : Nat) : Int) = 16 from rfl] at s2
  have c1 : (bif decide (x2 ≥ 65536) then x2 / 65536 else x2) < 65536 := by
    by_cases e : x2 ≥ 65536
    · exact s2.2.2.1 e
    · exact s2.2.2.2 e
  have c0 : (bif decide (x2 ≥ 65536) then IntKind.i64.wrap (x0 + 16) else x0) = x0 + (bif decide (x2 ≥ 65536) then (16 : Int) else 0) := by
    rw [wi64 (by omega)]; cases decide (x2 ≥ 65536) <;> simp
  have c3 : (bif decide (x2 ≥ 65536) then (16 : Int) else 0) = 0 ∨ (bif decide (x2 ≥ 65536) then (16 : Int) else 0) = 16 := by cases decide (x2 ≥ 65536) <;> simp
  rw [c0]
  have c2 := s2.2.1
  have s2 := s2.1
  generalize (bif decide (x2 ≥ 65536) then (16 : Int) else 0) = d1 at *
  generalize (bif decide (x2 ≥ 65536) then x2 / 65536 else x2) = x3 at *
  show (fun (x4 x5 : Int) => lenF x0 (x0 + d1) x2 x3 x4 x5) _ _ = _
  have s3 := len_step x3 8 8 c2 (by have : (2 : Int) ^ (8 + 8) = 65536 := rfl; omega)
  rw [show (2 : Int) ^ 8 = 256 from rfl, show ((8 : Nat) : Int) = 8 from rfl] at s3
  have e1 : (bif decide (x3 ≥ 256) then x3 / 256 else x3) < 256 := by
    by_cases e : x3 ≥ 256
    · exact s3.2.2.1 e
    · exact s3.2.2.2 e
  have e0 : (bif decide (x3 ≥ 256) then IntKind.i64.wrap (x0 + d1 + 8) else x0 + d1) = x0 + d1 + (bif decide (x3 ≥ 256) then (8 : Int) else 0) := by
    rw [wi64 (by omega)]; cases decide (x3 ≥ 256) <;> simp
  have e3 : (bif decide (x3 ≥ 256) then (8 : Int) else 0) = 0 ∨ (bif decide (x3 ≥ 256) then (8 : Int) else 0) = 8 := by cases decide (x3 ≥ 256) <;> simp
  rw [e0]
  have e2 := s3.2.1
  have s3 := s3.1
  generalize (bif decide (x3 ≥ 256) then (8 : Int) else 0) = d2 at *
  generalize (bif decide (x3 ≥ 256) then x3 / 256 else x3) = y at *
  show lenF _ _ _ _ _ _ = _
  have L := lenlist e2 e1
  rw [len_un] at L
  simp only [bif_dec] at L
  simp only [if_neg (show ¬ y ≥ 4294967296 by omega), if_neg (show ¬ y ≥ 65536 by omega), if_neg (show ¬ y ≥ 256 by omega)] at L
  unfold lenF at L ⊢
  have hb := tb_bd y
  rw [wu8 (n := y) (by omega), bif_dec, if_pos (by omega)] at L ⊢
  rw [wi64 (n := tb y) (by omega)] at L ⊢
  rw [wi64 (by omega)] at L ⊢
  have L := Option.some.inj L
  congr 1; omega
theorem len_eq {v : Int} (h : w64 v) : F_93e v = some (ln v) := by
  unfold F_93e; rw [len_hi h]; rfl
theorem lenr_eq {v : Int} (h : w64 v) : F_955 v = some (ln v) := by
  unfold F_955
  have hl := ln_bd (k := 64) h.1 (by have : (2 : Int) ^ 64 = 18446744073709551616 := rfl; omega)
  have key : ∀ i : Nat, (i : Int) ≤ ln v → ln (v / 2 ^ i) = ln v - i := by
    intro i; induction i with
    | zero => intro _; simp
    | succ n ih =>
      intro hi
      have a := ih (by omega)
      have hp : 0 < v / 2 ^ n := by
        apply Int.not_le.1; intro hn
        have : ln (v / 2 ^ n) = 0 := by unfold ln; rw [if_pos hn]
        omega
      have b := ln_half hp
      have c := div_p2 v n 1
      rw [show (2 : Int) ^ 1 = 2 from rfl] at c
      rw [← c]; omega
  have := lim_seq (st := st_955_0) (fun i => ((v / 2 ^ i, ((i : Int), ())), ())) (b := ((ln v, ()), ())) (ln v).toNat
    (fun i hi R kn ko => by
      have a := key i (by omega)
      have hp : 0 < v / 2 ^ i := by
        apply Int.not_le.1; intro hn
        have : ln (v / 2 ^ i) = 0 := by unfold ln; rw [if_pos hn]
        omega
      unfold st_955_0
      simp only [bif_dec]
      rw [if_pos hp, wi64 (by omega)]
      have c := div_p2 v i 1
      rw [show (2 : Int) ^ 1 = 2 from rfl] at c
      rw [c, show ((i + 1 : Nat) : Int) = (i : Int) + 1 by omega])
    (fun R kn ko => by
      have a := key (ln v).toNat (by omega)
      have hp : ¬ 0 < v / 2 ^ (ln v).toNat := by
        intro hn
        have := ln_pos hn
        omega
      unfold st_955_0
      simp only [bif_dec]
      rw [if_neg hp, show (((ln v).toNat : Nat) : Int) = ln v by omega])
  rw [show v / 2 ^ 0 = v by simp] at this
  exact (congrArg (fun o => Option.bind o fun r0 => some r0.1.1) this).trans rfl
theorem p2_min {k : Nat} (h : k ≤ 64) : min k 64 = k := Nat.min_eq_left h
theorem p2_big {k : Nat} {v : Int} (h0 : 0 ≤ v) (h1 : v < 18446744073709551616) (hk : 64 ≤ k) : v / 2 ^ k = 0 ∧ v % 2 ^ k = v := by
  have := p2_le hk
  rw [show (2 : Int) ^ 64 = 18446744073709551616 from rfl] at this
  exact ⟨Int.ediv_eq_zero_of_lt h0 (by omega), Int.emod_eq_of_lt h0 (by omega)⟩
theorem shr_eq {v n : Int} (h : w64 v) (hn : 0 ≤ n ∧ n < 1000000) : F_976 v n = some (v / 2 ^ n.toNat, decide (v % 2 ^ n.toNat ≠ 0), ()) := by
  unfold F_976
  simp only [bif_dec]
  by_cases h64 : n ≥ 64
  · have b := p2_big h.1 h.2 (show 64 ≤ n.toNat by omega)
    rw [if_pos h64, b.1, b.2]
    have : (v != 0) = decide (v ≠ 0) := by rw [Bool.eq_iff_iff]; simp
    rw [this]
  · rw [if_neg h64, if_neg (by omega), if_pos (by omega), wu64 (by omega), if_pos (by omega), if_pos (by omega), p2_min (by omega)]
    have p := p2_pos n.toNat
    have hd := Int.emod_add_mul_ediv v (2 ^ n.toNat)
    have hm := Int.emod_nonneg v (show (2 : Int) ^ n.toNat ≠ 0 by omega)
    rw [Int.mul_comm] at hd
    have h0 : 0 ≤ v / 2 ^ n.toNat * 2 ^ n.toNat := Int.mul_nonneg (Int.ediv_nonneg h.1 (by omega)) (by omega)
    rw [wu64 (n := v / 2 ^ n.toNat * 2 ^ n.toNat) (by omega)]
    have : (v / 2 ^ n.toNat * 2 ^ n.toNat != v) = decide (v % 2 ^ n.toNat ≠ 0) := by
      rw [Bool.eq_iff_iff]; simp; omega
    rw [this]
theorem shl_eq {v n : Int} (h : w64 v) (hn : 0 < n ∧ n < 1000000) (hv : v * 2 ^ n.toNat < 18446744073709551616) : F_976 v (-n) = some (v * 2 ^ n.toNat, false, ()) := by
  unfold F_976
  simp only [bif_dec]
  rw [if_neg (by omega)]
  have p := p2_pos n.toNat
  have hz : 0 ≤ v * 2 ^ n.toNat := Int.mul_nonneg h.1 (by omega)
  by_cases h64 : n ≥ 64
  · rw [if_pos (by omega)]
    have : v = 0 := by
      apply Int.le_antisymm ?_ h.1
      apply Int.not_lt.1; intro hp
      have := p2_le (show 64 ≤ n.toNat by omega)
      rw [show (2 : Int) ^ 64 = 18446744073709551616 from rfl] at this
      have : 1 * 2 ^ n.toNat ≤ v * 2 ^ n.toNat := Int.mul_le_mul_of_nonneg_right (by omega) (by omega)
      omega
    subst this; simp
  · rw [if_neg (by omega), if_neg (by omega), wi64 (by omega), show 0 - -n = n by omega, wu64 (n := n) (by omega), if_pos (by omega), if_pos (by omega), p2_min (by omega), wu64 ⟨hz, by omega⟩]
    rw [Int.mul_ediv_cancel _ (by omega)]; simp
theorem and1_64 {v : Int} (h : w64 v) : bits .and .u64 v 1 = v % 2 := by
  rw [Go.u64_and v 1 h.1 h.2 (by omega) (by omega)]
  have : (1 : Int).toNat = 1 := rfl
  rw [this, Nat.and_one_is_mod]; omega
theorem shr_st {v n : Int} (h : w64 v) (hn : 0 ≤ n ∧ n ≤ 64) (i : Nat) (hi : (i : Int) < n) (R kn ko) :
    st_977_0 R ((v / 2 ^ i, n - i, decide (v % 2 ^ i ≠ 0), ()), ()) kn ko = kn ((v / 2 ^ (i + 1), n - ((i + 1 : Nat) : Int), decide (v % 2 ^ (i + 1) ≠ 0), ()), ()) := by
  unfold st_977_0
  have p := p2_pos i
  have hq : w64 (v / 2 ^ i) := ⟨Int.ediv_nonneg h.1 (by omega), by
    have := Int.ediv_le_self (b := 2 ^ i) h.1; omega⟩
  dsimp only
  rw [bif_dec, if_pos (show n - (i : Int) > 0 by omega), wi64 (n := n - (i : Int) - 1) (by omega), and1_64 hq]
  have c := div_p2 v i 1
  have d := mod_p2 v i 1
  rw [show (2 : Int) ^ 1 = 2 from rfl] at c d
  rw [c, d, show n - (i : Int) - 1 = n - ((i + 1 : Nat) : Int) by omega]
  have hm := Int.emod_nonneg v (show (2 : Int) ^ i ≠ 0 by omega)
  by_cases e : v % 2 ^ i = 0
  · rw [e]
    have : (v / 2 ^ i % 2 == 1) = decide (0 + 2 ^ i * (v / 2 ^ i % 2) ≠ 0) := by
      rw [Bool.eq_iff_iff]
      rcases (show v / 2 ^ i % 2 = 0 ∨ v / 2 ^ i % 2 = 1 by omega) with g | g <;> rw [g] <;> simp
      omega
    rw [this]; simp
  · have g : decide (v % 2 ^ i + 2 ^ i * (v / 2 ^ i % 2) ≠ 0) = true := by
      have : 0 ≤ 2 ^ i * (v / 2 ^ i % 2) := Int.mul_nonneg (by omega) (by omega)
      simp; omega
    rw [g, decide_eq_true e]; rfl
theorem shrr_eq {v n : Int} (h : w64 v) (hn : 0 ≤ n ∧ n ≤ 64) : F_977 v n = some (v / 2 ^ n.toNat, decide (v % 2 ^ n.toNat ≠ 0), ()) := by
  unfold F_977
  have := lim_seq (st := st_977_0) (fun i => ((v / 2 ^ i, n - (i : Int), decide (v % 2 ^ i ≠ 0), ()), ())) (b := ((v / 2 ^ n.toNat, 0, decide (v % 2 ^ n.toNat ≠ 0), ()), ())) n.toNat
    (fun i hi R kn ko => shr_st h hn i (by omega) R kn ko)
    (fun R kn ko => by
      unfold st_977_0
      dsimp only
      rw [bif_dec, if_neg (show ¬ n - ((n.toNat : Nat) : Int) > 0 by omega), show n - ((n.toNat : Nat) : Int) = 0 by omega])
  rw [mn_eq, mx_eq, show min (max n (-64)) 64 = n by omega]
  have e : ((v / 2 ^ 0, n - ((0 : Nat) : Int), decide (v % 2 ^ 0 ≠ 0), ()), ()) = ((v, n, false, ()), ()) := by simp
  rw [e] at this
  rw [this]
  simp only [Option.bind_some]
  have := lim_done (st := st_977_1) (v := ((v / 2 ^ n.toNat, (0 : Int), decide (v % 2 ^ n.toNat ≠ 0), ()), ())) (b := ((v / 2 ^ n.toNat, decide (v % 2 ^ n.toNat ≠ 0), ()), ())) (fun R kn ko => by
    unfold st_977_1
    dsimp only
    rw [bif_dec, if_neg (show ¬ (0 : Int) < 0 by omega)])
  rw [this]; rfl
def sgn (f : Int) (neg : Bool) : Int := if neg then TT f else 0
abbrev ExcT : Type := Bool × Bool × Bool × Bool × Bool × Unit
def upS (mode : Int) (neg odd half rest : Bool) : Bool :=
  if mode = 1 then false else if mode = 2 then !neg && (half || rest) else if mode = 3 then neg && (half || rest) else if mode = 4 then half else half && (rest || odd)
def overS (f mode : Int) (neg : Bool) : Int := sgn f neg + (if mode = 1 ∨ (mode = 2 ∧ neg = true) ∨ (mode = 3 ∧ neg = false) then IN f - 1 else IN f)
def fin1 (mode : Int) (neg : Bool) (q : Int) (half rest : Bool) : Int := if upS mode neg (decide (q % 2 = 1)) half rest then q + 1 else q
def fin2 (f mode : Int) (neg : Bool) (u q1 : Int) (half rest small : Bool) : Int × ExcT × Unit :=
  if (if (if q1 / (2 * BB f) = 0 then q1 else q1 / 2) / BB f = 0 then 0 else (if q1 / (2 * BB f) = 0 then u else u + 1) + MM f - le f + 1) ≥ RR f - 1 then (overS f mode neg, (false, false, true, false, true, ()), ())
  else (sgn f neg + (if (if q1 / (2 * BB f) = 0 then q1 else q1 / 2) / BB f = 0 then 0 else (if q1 / (2 * BB f) = 0 then u else u + 1) + MM f - le f + 1) * BB f + (if q1 / (2 * BB f) = 0 then q1 else q1 / 2) % BB f,
    (false, false, false, (half || rest) && small, half || rest, ()), ())
def unitS (f e N : Int) : Int := (if N = 0 then le f else max (le f) (e + ln N - 1)) - MM f
def qS (N b : Int) : Int := if b ≤ 0 then N * 2 ^ (-b).toNat else N / 2 ^ b.toNat
def halfS (N b : Int) : Bool := if b ≤ 0 then false else decide (N / 2 ^ (b - 1).toNat % 2 = 1)
def restS (N b : Int) (more : Bool) : Bool := more || (if b ≤ 0 then false else decide (N % 2 ^ (b - 1).toNat ≠ 0))
def smallS (f e N : Int) : Bool := decide (N = 0 ∨ e + ln N - 1 < le f)
def pk (f mode : Int) (neg : Bool) (e N : Int) (more : Bool) : Int × ExcT × Unit :=
  if N = 0 ∧ more = false then (sgn f neg, (false, false, false, false, false, ()), ())
  else fin2 f mode neg (unitS f e N) (fin1 mode neg (qS N (unitS f e N - e)) (halfS N (unitS f e N - e)) (restS N (unitS f e N - e) more)) (halfS N (unitS f e N - e)) (restS N (unitS f e N - e) more) (smallS f e N)
theorem MM_pow (f : Int) : ∃ k : Nat, MM f = k ∧ BB f = 2 ^ k ∧ (k = 10 ∨ k = 7 ∨ k = 23) := by
  rcases tri f with rfl | rfl | ⟨h, h'⟩
  · exact ⟨10, by simp [MM], by simp [BB], by simp⟩
  · exact ⟨7, by simp [MM], by simp [BB], by simp⟩
  · exact ⟨23, by simp [MM, *], by simp [BB, *], by simp⟩
theorem le_bd (f : Int) : le f = -14 ∨ le f = -126 := by
  unfold le; rcases RR_pos f with h | h <;> rw [h] <;> simp
theorem q_bd (f e N : Int) (h : 0 ≤ N) : 0 ≤ qS N (unitS f e N - e) ∧ qS N (unitS f e N - e) < 2 * BB f := by
  obtain ⟨k, hk, hb, hk3⟩ := MM_pow f
  have pb := p2_pos k
  by_cases hN : N = 0
  · subst hN
    unfold qS; split <;> simp <;> omega
  have hp : 0 < N := by omega
  have hu : unitS f e N - e ≥ lg N - k := by unfold unitS; rw [if_neg hN, ln_pos hp, hk]; omega
  have hlt := lg_lt hp
  unfold qS
  generalize unitS f e N - e = b at *
  have hb2 : b ≥ lg N - k := by omega
  have e2 : 2 * BB f = 2 ^ (k + 1) := by rw [p2_succ, hb]
  rw [e2]
  split
  · have c := p2_pos (-b).toNat
    refine ⟨Int.mul_nonneg h (by omega), ?_⟩
    have : N * 2 ^ (-b).toNat < 2 ^ (lg N + 1) * 2 ^ (-b).toNat := Int.mul_lt_mul_of_pos_right hlt c
    rw [← p2_add] at this
    have := p2_le (show lg N + 1 + (-b).toNat ≤ k + 1 by omega)
    omega
  · have c := p2_pos b.toNat
    refine ⟨Int.ediv_nonneg h (by omega), ?_⟩
    rw [Int.ediv_lt_iff_lt_mul c, ← p2_add]
    have := p2_le (show lg N + 1 ≤ k + 1 + b.toNat by omega)
    omega
def ovf (f u q : Int) : Prop := (if (if q / (2 * BB f) = 0 then q else q / 2) / BB f = 0 then 0 else (if q / (2 * BB f) = 0 then u else u + 1) + MM f - le f + 1) ≥ RR f - 1
instance (f u q : Int) : Decidable (ovf f u q) := by unfold ovf; infer_instance
def encV (f u q : Int) : Int := (if (if q / (2 * BB f) = 0 then q else q / 2) / BB f = 0 then 0 else (if q / (2 * BB f) = 0 then u else u + 1) + MM f - le f + 1) * BB f + (if q / (2 * BB f) = 0 then q else q / 2) % BB f
def RV (f : Int) (neg : Bool) (u q : Int) : Int := if ovf f u q then sgn f neg + IN f else sgn f neg + encV f u q
theorem fin2_1 (f mode : Int) (neg : Bool) (u q : Int) (h r s : Bool) : (fin2 f mode neg u q h r s).1 = if ovf f u q then overS f mode neg else sgn f neg + encV f u q := by
  by_cases k : ovf f u q
  · rw [if_pos k]
    unfold ovf at k
    unfold fin2
    rw [if_pos k]
  · rw [if_neg k]
    unfold ovf at k
    unfold fin2
    rw [if_neg k]
    unfold encV
    exact Int.add_assoc _ _ _
theorem ovf_up {f u q : Int} (h0 : 0 ≤ q) (h1 : q < 2 * BB f) (hR : 3 ≤ RR f) (hB : 1 ≤ BB f) (h : ovf f u q) : ovf f u (q + 1) := by
  unfold ovf at h ⊢
  have e : q / (2 * BB f) = 0 := Int.ediv_eq_zero_of_lt h0 h1
  rw [if_pos e, if_pos e] at h
  have hb : ¬ q / BB f = 0 := by
    intro k; rw [if_pos k] at h; omega
  rw [if_neg hb] at h
  have hq : BB f ≤ q := by
    apply Int.le_of_not_gt; intro k; exact hb (Int.ediv_eq_zero_of_lt h0 k)
  by_cases k : q + 1 < 2 * BB f
  · have e2 : (q + 1) / (2 * BB f) = 0 := Int.ediv_eq_zero_of_lt (by omega) k
    rw [if_pos e2, if_pos e2]
    have : ¬ (q + 1) / BB f = 0 := by
      have := (Int.le_ediv_iff_mul_le (show 0 < BB f by omega) (a := 1) (b := q + 1)).2 (by omega)
      omega
    rw [if_neg this]; exact h
  · have e3 : q + 1 = 2 * BB f := by omega
    have e4 : (q + 1) / (2 * BB f) = 1 := by rw [e3]; exact Int.ediv_self (by omega)
    have e5 : (q + 1) / 2 = BB f := by omega
    rw [if_neg (show ¬ (q + 1) / (2 * BB f) = 0 by omega), e5, Int.ediv_self (by omega), if_neg (show ¬ (1 : Int) = 0 by decide), if_neg (show ¬ (q + 1) / (2 * BB f) = 0 by omega)]
    omega
theorem over_away (f : Int) (neg : Bool) : overS f (if neg then 3 else 2) neg = sgn f neg + IN f ∧ overS f 0 neg = sgn f neg + IN f := by
  cases neg <;> simp [overS]
theorem up_away (neg odd h r : Bool) : upS (if neg then 3 else 2) neg odd h r = (h || r) ∧ upS (if neg then 2 else 3) neg odd h r = false := by
  cases neg <;> simp [upS]
theorem bb_bd (f : Int) : 1 ≤ BB f ∧ 3 ≤ RR f := by
  rcases tri f with rfl | rfl | ⟨h, h'⟩
  · decide
  · decide
  · constructor <;> simp [BB, RR, h, h']
theorem pkN_of {f : Int} {neg : Bool} {u q x : Int} {h r s : Bool} (h0 : 0 ≤ q) (h1 : q < 2 * BB f) (hx : x = RV f neg u q ∨ (x = RV f neg u (q + 1) ∧ (h || r) = true)) :
    x = (fin2 f 3 neg u (fin1 3 neg q h r) h r s).1 ∨ x = (fin2 f 2 neg u (fin1 2 neg q h r) h r s).1 := by
  have key : x = (fin2 f (if neg then 2 else 3) neg u (fin1 (if neg then 2 else 3) neg q h r) h r s).1 ∨ x = (fin2 f (if neg then 3 else 2) neg u (fin1 (if neg then 3 else 2) neg q h r) h r s).1 := by
    unfold fin1
    rw [(up_away neg _ h r).1, (up_away neg _ h r).2, fin2_1, fin2_1, (over_away f neg).1]
    rw [if_neg (show ¬ false = true by decide)]
    have hb := bb_bd f
    have A : x = RV f neg u (q + 1) → (h || r) = true → x = if ovf f u (if (h || r) = true then q + 1 else q) then sgn f neg + IN f else sgn f neg + encV f u (if (h || r) = true then q + 1 else q) := by
      intro a b; rw [if_pos b]; exact a
    rcases hx with e | ⟨e, k⟩
    · by_cases o : ovf f u q
      · right
        unfold RV at e
        rw [if_pos o] at e
        by_cases k : (h || r) = true
        · rw [if_pos k, if_pos (ovf_up h0 h1 hb.2 hb.1 o)]; exact e
        · rw [if_neg k, if_pos o]; exact e
      · left
        unfold RV at e
        rw [if_neg o] at e ⊢
        exact e
    · exact .inr (A e k)
  cases neg
  · exact key
  · exact key.symm
theorem pkN_RV (f : Int) (neg : Bool) (u q : Int) (h r s : Bool) : (fin2 f 0 neg u (fin1 0 neg q h r) h r s).1 = RV f neg u q ∨ ((fin2 f 0 neg u (fin1 0 neg q h r) h r s).1 = RV f neg u (q + 1) ∧ (h || r) = true) := by
  rw [fin2_1, (over_away f neg).2]
  unfold fin1
  cases hu : upS 0 neg (decide (q % 2 = 1)) h r
  · left; rfl
  · right
    refine ⟨rfl, ?_⟩
    simp [upS] at hu
    rw [hu.1]; rfl
theorem pkN_two {f : Int} {neg : Bool} {e N x : Int} (hN : 0 ≤ N) (hx : (N = 0 ∧ x = sgn f neg) ∨ (N ≠ 0 ∧ (x = RV f neg (unitS f e N) (qS N (unitS f e N - e)) ∨ (x = RV f neg (unitS f e N) (qS N (unitS f e N - e) + 1) ∧ (halfS N (unitS f e N - e) || restS N (unitS f e N - e) false) = true)))) :
    x = (pk f 3 neg e N false).1 ∨ x = (pk f 2 neg e N false).1 := by
  unfold pk
  rcases hx with ⟨h, k⟩ | ⟨h, k⟩
  · rw [if_pos ⟨h, rfl⟩]; exact .inl k
  · rw [if_neg (fun z => h z.1), if_neg (fun z => h z.1)]
    have := q_bd f e N hN
    exact pkN_of this.1 this.2 k
theorem pkN_near (f : Int) (neg : Bool) (e N : Int) : (N = 0 ∧ (pk f 0 neg e N false).1 = sgn f neg) ∨ (N ≠ 0 ∧ ((pk f 0 neg e N false).1 = RV f neg (unitS f e N) (qS N (unitS f e N - e)) ∨ ((pk f 0 neg e N false).1 = RV f neg (unitS f e N) (qS N (unitS f e N - e) + 1) ∧ (halfS N (unitS f e N - e) || restS N (unitS f e N - e) false) = true))) := by
  unfold pk
  by_cases h : N = 0
  · left; refine ⟨h, ?_⟩; rw [if_pos ⟨h, rfl⟩]
  · right; refine ⟨h, ?_⟩
    rw [if_neg (fun z => h z.1)]
    exact pkN_RV _ _ _ _ _ _ _
noncomputable def O_962 : Orc := (orm c_96a c_969)
theorem okO_962 : OrcOk PR O_962 := (orm_ok ok_96a ok_969)
abbrev fa_962 : Fm := (.pair (.i .i64) (.pair (.si .u32) .unit))
abbrev fr_962 : Fm := (.tup (.pair (.i .u32) (.pair (.agg (.pair .b (.pair .b (.pair .b (.pair .b (.pair .b .unit)))))) (.pair .b .unit))))
abbrev ff_962_0 : Fm := (.pair (.i .i64) (.us 4 (.cst (.ref 0 1 0) (.us 1 (.pair .b (.cst (.ref 1 1 0) (.us 3 (.pair (.si .u32) (.pair (.i .i64) (.pair (.i .i64) (.us 23 .unit)))))))))))
abbrev hf_962_0 : List BF := [(.list 1 y_98 true (.pair .b (.pair .b (.pair .b (.pair .b (.pair .b .unit)))))), (.list 1 y_98 true (.pair .b (.pair .b (.pair .b (.pair .b (.pair .b .unit))))))]
abbrev X_962_0 : Xs := (.one (.exit 0) [0, 5, 7, 8] (.pair (.i .i64) (.us 4 (.cst (.ref 0 1 0) (.us 1 (.pair .b (.cst (.ref 1 1 0) (.us 29 .unit))))))) [(.list 1 y_98 true (.pair .b (.pair .b (.pair .b (.pair .b (.pair .b .unit)))))), (.list 1 y_98 true (.pair .b (.pair .b (.pair .b (.pair .b (.pair .b .unit))))))])
abbrev S_962_0 : Type := T ff_962_0 × TH hf_962_0
abbrev E_962_0 : Type := TX X_962_0
noncomputable def LB_962_0 : Lps := L0
noncomputable def st_962_0 : StepT S_962_0 E_962_0 := fun R v kn ko =>
 let x0 : Int := v.1.1
 let x1 : List Int := v.1.2.2.1
 let x2 : Int := v.1.2.2.2.2.1
 let x3 : Bool := v.1.2.1
 let x4 : Bool := v.2.2.1.1
 bif (decide (x2 < v.1.2.2.2.1)) then
 bif (decide (((0:Int) ≤ x2) ∧ (x2 < (((List.length x1) : Nat) : Int)))) then
 ((F_96a x0 (List.getD x1 (Int.toNat x2) (0:Int)))).bind fun r5 =>
 bif x3 then
 bif x4 then
 (kn ((x0, (true, ((List.take (List.length x1) x1), (v.1.2.2.2.1, ((IntKind.wrap .i64 (x2 + (1:Int))), ()))))), (v.2.1, ((true, v.2.2.1.2), ()))))
 else
 (kn ((x0, (true, ((List.take (List.length x1) x1), (v.1.2.2.2.1, ((IntKind.wrap .i64 (x2 + (1:Int))), ()))))), (v.2.1, (((r5 == (5:Int)), v.2.2.1.2), ()))))
 else
 bif x4 then
 (kn ((x0, ((decide (r5 ≥ (4:Int))), ((List.take (List.length x1) x1), (v.1.2.2.2.1, ((IntKind.wrap .i64 (x2 + (1:Int))), ()))))), (v.2.1, ((true, v.2.2.1.2), ()))))
 else
 (kn ((x0, ((decide (r5 ≥ (4:Int))), ((List.take (List.length x1) x1), (v.1.2.2.2.1, ((IntKind.wrap .i64 (x2 + (1:Int))), ()))))), (v.2.1, (((r5 == (5:Int)), v.2.2.1.2), ()))))
 else
 none
 else
 (ko ((x0, (x3, ())), v.2))
noncomputable def ls_962_0 : St → LTr := (lsum ff_962_0 hf_962_0 X_962_0 Prod.mk id st_962_0 (hd [] [] [0, 5, 7, 8, 12, 13, 14] 0))
theorem lp_962_0 : LoopOk PR 0 (lpN f_962 0) ls_962_0 := loopT okO_962 mixed (L := LB_962_0) (d := 1) (bs := []) (ks := [0, 5, 7, 8, 12, 13, 14]) (loopsL (l := []) (by kernel_rfl) trivial) (by kernel_rfl) (inS := Prod.mk) (outS := id) (fun _ _ => rfl) (inX := id) (outX := id) (fun _ => rfl) (fun v R kn ko => by kernel_rfl) (hd_wk [] [] [0, 5, 7, 8, 12, 13, 14] 0)
noncomputable def L_962 : Lps := (lpB 5 (.by_ ls_962_0) L0)
noncomputable def F_962 (a0 : Int) (a1 : List Int) : Option (Int × (Bool × Bool × Bool × Bool × Bool × Unit) × Bool × Unit) :=
 ((lim st_962_0 ((a0, (false, ((List.take (List.length a1) a1), ((((List.length a1) : Nat) : Int), ((0:Int), ()))))), ((false, (false, (false, (false, (false, ()))))), ((false, (false, (false, (false, (false, ()))))), ()))))).bind fun r0 =>
 ((F_969 r0.1.1)).bind fun r1 =>
 (some (r1, (r0.2.2.1, r0.1.2)))
noncomputable def G_962 : T fa_962 → TH hN0 → Option (Int × (Bool × Bool × Bool × Bool × Bool × Unit) × Bool × Unit) := fun x y => F_962 x.1 x.2.1
noncomputable def c_962 : Orc := ent i_962 [] 0 (sp fa_962 hN0 fr_962 hN0 G_962 (outN fr_962))
theorem ok_962 : OrcOk PR c_962 := fnT okO_962 mixed p_962 (by kernel_rfl) (by kernel_rfl) (L := L_962) (kp := false) (by kernel_rfl) (inn := (innN fr_962)) (out := (outN fr_962)) (fun _ _ => rfl) (loopsL (l := [((lpN f_962 0), ls_962_0)]) (by kernel_rfl) ⟨lp_962_0, trivial⟩) (fun x y => by kernel_rfl)
noncomputable def O_974 : Orc := c_969
theorem okO_974 : OrcOk PR O_974 := ok_969
abbrev fa_974 : Fm := (.pair (.i .i64) .unit)
abbrev fr_974 : Fm := (.tup (.pair (.i .u32) (.pair (.agg (.pair .b (.pair .b (.pair .b (.pair .b (.pair .b .unit)))))) .unit)))
noncomputable def F_974 (a0 : Int) : Option (Int × (Bool × Bool × Bool × Bool × Bool × Unit) × Unit) :=
 ((F_969 a0)).bind fun r0 =>
 (some (r0, ((true, (false, (false, (false, (false, ()))))), ())))
noncomputable def G_974 : T fa_974 → TH hN0 → Option (Int × (Bool × Bool × Bool × Bool × Bool × Unit) × Unit) := fun x y => F_974 x.1
noncomputable def c_974 : Orc := ent i_974 [] 0 (sp fa_974 hN0 fr_974 hN0 G_974 (outN fr_974))
theorem ok_974 : OrcOk PR c_974 := fnT okO_974 mixed p_974 (by kernel_rfl) (by kernel_rfl) (L := L0) (kp := false) (by kernel_rfl) (inn := (innN fr_974)) (out := (outN fr_974)) (fun _ _ => rfl) (loopsL (l := []) (by kernel_rfl) trivial) (fun x y => by kernel_rfl)
noncomputable def O_98d : Orc := (orm c_939 c_93c)
theorem okO_98d : OrcOk PR O_98d := (orm_ok ok_939 ok_93c)
abbrev fa_98d : Fm := (.pair (.i .i64) (.pair (.i .u32) (.pair (.i .u32) .unit)))
abbrev fr_98d : Fm := .b
noncomputable def F_98d (a0 : Int) (a1 : Int) (a2 : Int) : Option (Bool) :=
 ((F_939 a0 a1)).bind fun r0 =>
 bif r0 then
 ((F_93c a0 a2)).bind fun r1 =>
 bif r1 then
 (some true)
 else
 ((F_93c a0 a1)).bind fun r2 =>
 bif r2 then
 ((F_939 a0 a2)).bind fun r3 =>
 (some r3)
 else
 (some false)
 else
 ((F_93c a0 a1)).bind fun r4 =>
 bif r4 then
 ((F_939 a0 a2)).bind fun r5 =>
 (some r5)
 else
 (some false)
noncomputable def G_98d : T fa_98d → TH hN0 → Option (Bool) := fun x y => F_98d x.1 x.2.1 x.2.2.1
noncomputable def c_98d : Orc := ent i_98d [] 0 (sp fa_98d hN0 fr_98d hN0 G_98d (outN fr_98d))
theorem ok_98d : OrcOk PR c_98d := fnT okO_98d mixed p_98d (by kernel_rfl) (by kernel_rfl) (L := L0) (kp := false) (by kernel_rfl) (inn := (innN fr_98d)) (out := (outN fr_98d)) (fun _ _ => rfl) (loopsL (l := []) (by kernel_rfl) trivial) (fun x y => by kernel_rfl)
noncomputable def O_964 : Orc := c_93d
theorem okO_964 : OrcOk PR O_964 := ok_93d
abbrev fa_964 : Fm := (.pair (.i .i64) (.pair (.i .u32) .unit))
abbrev fr_964 : Fm := (.agg (.pair .b (.pair (.i .i64) (.pair (.i .u64) (.pair .b .unit)))))
noncomputable def F_964 (a0 : Int) (a1 : Int) : Option (Bool × Int × Int × Bool × Unit) :=
 ((F_93d a0 a1)).bind fun r0 =>
 let x1 : Int := r0.2.2.1
 (some (r0.1, (r0.2.1, (x1, (false, ())))))
noncomputable def G_964 : T fa_964 → TH hN0 → Option (Bool × Int × Int × Bool × Unit) := fun x y => F_964 x.1 x.2.1
noncomputable def c_964 : Orc := ent i_964 [] 0 (sp fa_964 hN0 fr_964 hN0 G_964 (outN fr_964))
theorem ok_964 : OrcOk PR c_964 := fnT okO_964 mixed p_964 (by kernel_rfl) (by kernel_rfl) (L := L0) (kp := false) (by kernel_rfl) (inn := (innN fr_964)) (out := (outN fr_964)) (fun _ _ => rfl) (loopsL (l := []) (by kernel_rfl) trivial) (fun x y => by kernel_rfl)
noncomputable def O_98e : Orc := c_964
theorem okO_98e : OrcOk PR O_98e := ok_964
abbrev fa_98e : Fm := (.pair (.i .i64) (.pair (.i .u32) (.pair (.i .u32) .unit)))
abbrev fr_98e : Fm := (.agg (.pair .b (.pair (.i .i64) (.pair (.i .u64) (.pair .b .unit)))))
noncomputable def F_98e (a0 : Int) (a1 : Int) (a2 : Int) : Option (Bool × Int × Int × Bool × Unit) :=
 ((F_964 a0 a1)).bind fun r0 =>
 let x1 : Int := r0.2.2.1
 ((F_964 a0 a2)).bind fun r2 =>
 let x3 : Int := r2.2.2.1
 (some ((!(r0.1 == r2.1)), ((IntKind.wrap .i64 (r0.2.1 + r2.2.1)), ((IntKind.wrap .u64 (x1 * x3)), (false, ())))))
noncomputable def G_98e : T fa_98e → TH hN0 → Option (Bool × Int × Int × Bool × Unit) := fun x y => F_98e x.1 x.2.1 x.2.2.1
noncomputable def c_98e : Orc := ent i_98e [] 0 (sp fa_98e hN0 fr_98e hN0 G_98e (outN fr_98e))
theorem ok_98e : OrcOk PR c_98e := fnT okO_98e mixed p_98e (by kernel_rfl) (by kernel_rfl) (L := L0) (kp := false) (by kernel_rfl) (inn := (innN fr_98e)) (out := (outN fr_98e)) (fun _ _ => rfl) (loopsL (l := []) (by kernel_rfl) trivial) (fun x y => by kernel_rfl)
noncomputable def O_973 : Orc := (orm c_962 (orm c_98d (orm c_974 (orm c_93b (orm c_93c (orm c_93a (orm c_98e c_95d)))))))
theorem okO_973 : OrcOk PR O_973 := (orm_ok ok_962 (orm_ok ok_98d (orm_ok ok_974 (orm_ok ok_93b (orm_ok ok_93c (orm_ok ok_93a (orm_ok ok_98e ok_95d)))))))
abbrev fa_973 : Fm := (.pair (.i .i64) (.pair (.i .i64) (.pair (.i .u32) (.pair (.i .u32) .unit))))
abbrev fr_973 : Fm := (.tup (.pair (.i .u32) (.pair (.agg (.pair .b (.pair .b (.pair .b (.pair .b (.pair .b .unit)))))) .unit)))
noncomputable def F_973 (a0 : Int) (a1 : Int) (a2 : Int) (a3 : Int) : Option (Int × (Bool × Bool × Bool × Bool × Bool × Unit) × Unit) :=
 ((F_962 a0 [a2, a3])).bind fun r0 =>
 let x1 : Bool := r0.2.2.1
 bif x1 then
 (some (r0.1, (r0.2.1, ())))
 else
 ((F_98d a0 a2 a3)).bind fun r2 =>
 bif r2 then
 ((F_974 a0)).bind fun r3 =>
 (some r3)
 else
 ((F_93b a0 a2)).bind fun r4 =>
 ((F_93b a0 a3)).bind fun r5 =>
 let x6 : Bool := (!(r4 == r5))
 ((F_93c a0 a2)).bind fun r7 =>
 bif r7 then
 ((F_93a a0 x6)).bind fun r8 =>
 (some (r8, ((false, (false, (false, (false, (false, ()))))), ())))
 else
 ((F_93c a0 a3)).bind fun r9 =>
 bif r9 then
 ((F_93a a0 x6)).bind fun r10 =>
 (some (r10, ((false, (false, (false, (false, (false, ()))))), ())))
 else
 ((F_98e a0 a2 a3)).bind fun r11 =>
 let x12 : Int := r11.2.2.1
 ((F_95d a0 a1 x6 r11.2.1 x12 false)).bind fun r13 =>
 (some r13)
noncomputable def G_973 : T fa_973 → TH hN0 → Option (Int × (Bool × Bool × Bool × Bool × Bool × Unit) × Unit) := fun x y => F_973 x.1 x.2.1 x.2.2.1 x.2.2.2.1
noncomputable def c_973 : Orc := ent i_973 [] 0 (sp fa_973 hN0 fr_973 hN0 G_973 (outN fr_973))
theorem ok_973 : OrcOk PR c_973 := fnT okO_973 mixed p_973 (by kernel_rfl) (by kernel_rfl) (L := L0) (kp := false) (by kernel_rfl) (inn := (innN fr_973)) (out := (outN fr_973)) (fun _ _ => rfl) (loopsL (l := []) (by kernel_rfl) trivial) (fun x y => by kernel_rfl)
noncomputable def O_941 : Orc := c_973
theorem okO_941 : OrcOk PR O_941 := ok_973
abbrev fa_941 : Fm := (.pair (.i .u32) (.pair (.i .u32) .unit))
abbrev fr_941 : Fm := (.i .u32)
noncomputable def F_941 (a0 : Int) (a1 : Int) : Option (Int) :=
 ((F_973 (2:Int) (0:Int) a0 a1)).bind fun r0 =>
 (some r0.1)
noncomputable def G_941 : T fa_941 → TH hN0 → Option (Int) := fun x y => F_941 x.1 x.2.1
noncomputable def c_941 : Orc := ent i_941 [] 0 (sp fa_941 hN0 fr_941 hN0 G_941 (outN fr_941))
theorem ok_941 : OrcOk PR c_941 := fnT okO_941 mixed p_941 (by kernel_rfl) (by kernel_rfl) (L := L0) (kp := false) (by kernel_rfl) (inn := (innN fr_941)) (out := (outN fr_941)) (fun _ _ => rfl) (loopsL (l := []) (by kernel_rfl) trivial) (fun x y => by kernel_rfl)
noncomputable def O_963 : Orc := (orm c_974 c_93a)
theorem okO_963 : OrcOk PR O_963 := (orm_ok ok_974 ok_93a)
abbrev fa_963 : Fm := (.pair (.i .i64) (.pair .b (.pair .b (.pair .b (.pair .b .unit)))))
abbrev fr_963 : Fm := (.tup (.pair (.i .u32) (.pair (.agg (.pair .b (.pair .b (.pair .b (.pair .b (.pair .b .unit)))))) .unit)))
noncomputable def F_963 (a0 : Int) (a1 : Bool) (a2 : Bool) (a3 : Bool) (a4 : Bool) : Option (Int × (Bool × Bool × Bool × Bool × Bool × Unit) × Unit) :=
 bif a3 then
 bif a4 then
 bif (!(a1 == a2)) then
 ((F_974 a0)).bind fun r0 =>
 (some r0)
 else
 bif a3 then
 ((F_93a a0 a1)).bind fun r1 =>
 (some (r1, ((false, (false, (false, (false, (false, ()))))), ())))
 else
 ((F_93a a0 a2)).bind fun r2 =>
 (some (r2, ((false, (false, (false, (false, (false, ()))))), ())))
 else
 bif a3 then
 ((F_93a a0 a1)).bind fun r3 =>
 (some (r3, ((false, (false, (false, (false, (false, ()))))), ())))
 else
 ((F_93a a0 a2)).bind fun r4 =>
 (some (r4, ((false, (false, (false, (false, (false, ()))))), ())))
 else
 bif a3 then
 ((F_93a a0 a1)).bind fun r5 =>
 (some (r5, ((false, (false, (false, (false, (false, ()))))), ())))
 else
 ((F_93a a0 a2)).bind fun r6 =>
 (some (r6, ((false, (false, (false, (false, (false, ()))))), ())))
noncomputable def G_963 : T fa_963 → TH hN0 → Option (Int × (Bool × Bool × Bool × Bool × Bool × Unit) × Unit) := fun x y => F_963 x.1 x.2.1 x.2.2.1 x.2.2.2.1 x.2.2.2.2.1
noncomputable def c_963 : Orc := ent i_963 [] 0 (sp fa_963 hN0 fr_963 hN0 G_963 (outN fr_963))
theorem ok_963 : OrcOk PR c_963 := fnT okO_963 mixed p_963 (by kernel_rfl) (by kernel_rfl) (L := L0) (kp := false) (by kernel_rfl) (inn := (innN fr_963)) (out := (outN fr_963)) (fun _ _ => rfl) (loopsL (l := []) (by kernel_rfl) trivial) (fun x y => by kernel_rfl)
noncomputable def O_993 : Orc := (orm c_93e c_976)
theorem okO_993 : OrcOk PR O_993 := (orm_ok ok_93e ok_976)
abbrev fa_993 : Fm := (.pair (.agg (.pair .b (.pair (.i .i64) (.pair (.i .u64) (.pair .b .unit))))) .unit)
abbrev fr_993 : Fm := (.agg (.pair .b (.pair (.i .i64) (.pair (.i .u64) (.pair .b .unit)))))
noncomputable def F_993 (a0 : Bool × Int × Int × Bool × Unit) : Option (Bool × Int × Int × Bool × Unit) :=
 let x0 : Int := a0.2.2.1
 ((F_93e x0)).bind fun r1 =>
 let x2 : Int := (IntKind.wrap .i64 ((62:Int) - r1))
 ((F_976 x0 (IntKind.wrap .i64 ((0:Int) - x2)))).bind fun r3 =>
 (some (a0.1, ((IntKind.wrap .i64 (a0.2.1 - x2)), (r3.1, a0.2.2.2))))
noncomputable def G_993 : T fa_993 → TH hN0 → Option (Bool × Int × Int × Bool × Unit) := fun x y => F_993 x.1
noncomputable def c_993 : Orc := ent i_993 [] 0 (sp fa_993 hN0 fr_993 hN0 G_993 (outN fr_993))
theorem ok_993 : OrcOk PR c_993 := fnT okO_993 mixed p_993 (by kernel_rfl) (by kernel_rfl) (L := L0) (kp := false) (by kernel_rfl) (inn := (innN fr_993)) (out := (outN fr_993)) (fun _ _ => rfl) (loopsL (l := []) (by kernel_rfl) trivial) (fun x y => by kernel_rfl)
noncomputable def O_965 : Orc := (orm c_993 c_976)
theorem okO_965 : OrcOk PR O_965 := (orm_ok ok_993 ok_976)
abbrev fa_965 : Fm := (.pair (.agg (.pair .b (.pair (.i .i64) (.pair (.i .u64) (.pair .b .unit))))) (.pair (.agg (.pair .b (.pair (.i .i64) (.pair (.i .u64) (.pair .b .unit))))) .unit))
abbrev fr_965 : Fm := (.agg (.pair .b (.pair (.i .i64) (.pair (.i .u64) (.pair .b .unit)))))
noncomputable def F_965 (a0 : Bool × Int × Int × Bool × Unit) (a1 : Bool × Int × Int × Bool × Unit) : Option (Bool × Int × Int × Bool × Unit) :=
 let x0 : Int := a0.2.2.1
 let x1 : Int := a1.2.2.1
 bif (x0 == (0:Int)) then
 (some a1)
 else
 bif (x1 == (0:Int)) then
 (some a0)
 else
 ((F_993 a0)).bind fun r2 =>
 let x3 : Int := r2.2.2.1
 ((F_993 a1)).bind fun r4 =>
 let x5 : Bool := (r4.1 == r2.1)
 let x6 : Int := r4.2.2.1
 let x7 : Bool := (r2.1 == r4.1)
 bif (decide (r2.2.1 < r4.2.1)) then
 ((F_976 x3 (IntKind.wrap .i64 (r4.2.1 - r2.2.1)))).bind fun r8 =>
 let x9 : Int := (IntKind.wrap .u64 (x6 - r8.1))
 bif x5 then
 (some (r4.1, (r4.2.1, ((IntKind.wrap .u64 (x6 + r8.1)), r8.2))))
 else
 bif r8.2.1 then
 (some (r4.1, (r4.2.1, ((IntKind.wrap .u64 (x9 - (1:Int))), r8.2))))
 else
 (some (r4.1, (r4.2.1, (x9, r8.2))))
 else
 bif (r2.2.1 == r4.2.1) then
 bif (decide (x3 < x6)) then
 ((F_976 x3 (IntKind.wrap .i64 (r4.2.1 - r2.2.1)))).bind fun r10 =>
 let x11 : Int := (IntKind.wrap .u64 (x6 - r10.1))
 bif x5 then
 (some (r4.1, (r4.2.1, ((IntKind.wrap .u64 (x6 + r10.1)), r10.2))))
 else
 bif r10.2.1 then
 (some (r4.1, (r4.2.1, ((IntKind.wrap .u64 (x11 - (1:Int))), r10.2))))
 else
 (some (r4.1, (r4.2.1, (x11, r10.2))))
 else
 ((F_976 x6 (IntKind.wrap .i64 (r2.2.1 - r4.2.1)))).bind fun r12 =>
 let x13 : Int := (IntKind.wrap .u64 (x3 - r12.1))
 bif x7 then
 (some (r2.1, (r2.2.1, ((IntKind.wrap .u64 (x3 + r12.1)), r12.2))))
 else
 bif r12.2.1 then
 (some (r2.1, (r2.2.1, ((IntKind.wrap .u64 (x13 - (1:Int))), r12.2))))
 else
 (some (r2.1, (r2.2.1, (x13, r12.2))))
 else
 ((F_976 x6 (IntKind.wrap .i64 (r2.2.1 - r4.2.1)))).bind fun r14 =>
 let x15 : Int := (IntKind.wrap .u64 (x3 - r14.1))
 bif x7 then
 (some (r2.1, (r2.2.1, ((IntKind.wrap .u64 (x3 + r14.1)), r14.2))))
 else
 bif r14.2.1 then
 (some (r2.1, (r2.2.1, ((IntKind.wrap .u64 (x15 - (1:Int))), r14.2))))
 else
 (some (r2.1, (r2.2.1, (x15, r14.2))))
noncomputable def G_965 : T fa_965 → TH hN0 → Option (Bool × Int × Int × Bool × Unit) := fun x y => F_965 x.1 x.2.1
noncomputable def c_965 : Orc := ent i_965 [] 0 (sp fa_965 hN0 fr_965 hN0 G_965 (outN fr_965))
theorem ok_965 : OrcOk PR c_965 := fnT okO_965 mixed p_965 (by kernel_rfl) (by kernel_rfl) (L := L0) (kp := false) (by kernel_rfl) (inn := (innN fr_965)) (out := (outN fr_965)) (fun _ _ => rfl) (loopsL (l := []) (by kernel_rfl) trivial) (fun x y => by kernel_rfl)
noncomputable def O_966 : Orc := c_975
theorem okO_966 : OrcOk PR O_966 := ok_975
abbrev fa_966 : Fm := (.pair (.i .i64) (.pair (.i .i64) (.pair .b (.pair .b .unit))))
abbrev fr_966 : Fm := (.i .u32)
noncomputable def F_966 (a0 : Int) (a1 : Int) (a2 : Bool) (a3 : Bool) : Option (Int) :=
 bif (a2 == a3) then
 ((F_975 a0 a2)).bind fun r0 =>
 (some r0)
 else
 ((F_975 a0 (a1 == (3:Int)))).bind fun r1 =>
 (some r1)
noncomputable def G_966 : T fa_966 → TH hN0 → Option (Int) := fun x y => F_966 x.1 x.2.1 x.2.2.1 x.2.2.2.1
noncomputable def c_966 : Orc := ent i_966 [] 0 (sp fa_966 hN0 fr_966 hN0 G_966 (outN fr_966))
theorem ok_966 : OrcOk PR c_966 := fnT okO_966 mixed p_966 (by kernel_rfl) (by kernel_rfl) (L := L0) (kp := false) (by kernel_rfl) (inn := (innN fr_966)) (out := (outN fr_966)) (fun _ _ => rfl) (loopsL (l := []) (by kernel_rfl) trivial) (fun x y => by kernel_rfl)
noncomputable def O_95c : Orc := (orm c_98d (orm c_962 (orm c_974 (orm c_93b (orm c_93c (orm c_963 (orm c_98e (orm c_964 (orm c_965 (orm c_966 c_95d))))))))))
theorem okO_95c : OrcOk PR O_95c := (orm_ok ok_98d (orm_ok ok_962 (orm_ok ok_974 (orm_ok ok_93b (orm_ok ok_93c (orm_ok ok_963 (orm_ok ok_98e (orm_ok ok_964 (orm_ok ok_965 (orm_ok ok_966 ok_95d))))))))))
abbrev fa_95c : Fm := (.pair (.i .i64) (.pair (.i .i64) (.pair (.i .u32) (.pair (.i .u32) (.pair (.i .u32) .unit)))))
abbrev fr_95c : Fm := (.tup (.pair (.i .u32) (.pair (.agg (.pair .b (.pair .b (.pair .b (.pair .b (.pair .b .unit)))))) .unit)))
noncomputable def F_95c (a0 : Int) (a1 : Int) (a2 : Int) (a3 : Int) (a4 : Int) : Option (Int × (Bool × Bool × Bool × Bool × Bool × Unit) × Unit) :=
 ((F_98d a0 a2 a3)).bind fun r0 =>
 ((F_962 a0 [a2, a3, a4])).bind fun r1 =>
 let x2 : Bool := r1.2.2.1
 let x3 : Bool := r1.2.1.1
 bif x2 then
 bif x3 then
 (some (r1.1, ((true, r1.2.1.2), ())))
 else
 (some (r1.1, ((r0, r1.2.1.2), ())))
 else
 bif r0 then
 ((F_974 a0)).bind fun r4 =>
 (some r4)
 else
 ((F_93b a0 a2)).bind fun r5 =>
 ((F_93b a0 a3)).bind fun r6 =>
 let x7 : Bool := (!(r5 == r6))
 ((F_93c a0 a2)).bind fun r8 =>
 bif r8 then
 ((F_93c a0 a4)).bind fun r9 =>
 ((F_93b a0 a4)).bind fun r10 =>
 ((F_963 a0 x7 r10 true r9)).bind fun r11 =>
 (some r11)
 else
 ((F_93c a0 a3)).bind fun r12 =>
 ((F_93c a0 a4)).bind fun r13 =>
 bif r12 then
 ((F_93b a0 a4)).bind fun r14 =>
 ((F_963 a0 x7 r14 r12 r13)).bind fun r15 =>
 (some r15)
 else
 bif r13 then
 ((F_93b a0 a4)).bind fun r16 =>
 ((F_963 a0 x7 r16 r12 r13)).bind fun r17 =>
 (some r17)
 else
 ((F_98e a0 a2 a3)).bind fun r18 =>
 ((F_964 a0 a4)).bind fun r19 =>
 ((F_965 r18 r19)).bind fun r20 =>
 let x21 : Int := r20.2.2.1
 let x22 : Bool := r20.2.2.2.1
 bif (x21 == (0:Int)) then
 bif (!x22) then
 ((F_966 a0 a1 x7 r19.1)).bind fun r23 =>
 (some (r23, ((false, (false, (false, (false, (false, ()))))), ())))
 else
 ((F_95d a0 a1 r20.1 r20.2.1 x21 x22)).bind fun r24 =>
 (some r24)
 else
 ((F_95d a0 a1 r20.1 r20.2.1 x21 x22)).bind fun r25 =>
 (some r25)
noncomputable def G_95c : T fa_95c → TH hN0 → Option (Int × (Bool × Bool × Bool × Bool × Bool × Unit) × Unit) := fun x y => F_95c x.1 x.2.1 x.2.2.1 x.2.2.2.1 x.2.2.2.2.1
noncomputable def c_95c : Orc := ent i_95c [] 0 (sp fa_95c hN0 fr_95c hN0 G_95c (outN fr_95c))
theorem ok_95c : OrcOk PR c_95c := fnT okO_95c mixed p_95c (by kernel_rfl) (by kernel_rfl) (L := L0) (kp := false) (by kernel_rfl) (inn := (innN fr_95c)) (out := (outN fr_95c)) (fun _ _ => rfl) (loopsL (l := []) (by kernel_rfl) trivial) (fun x y => by kernel_rfl)
noncomputable def O_931 : Orc := c_95c
theorem okO_931 : OrcOk PR O_931 := ok_95c
abbrev fa_931 : Fm := (.pair (.i .u32) (.pair (.i .u32) (.pair (.i .u32) .unit)))
abbrev fr_931 : Fm := (.i .u32)
noncomputable def F_931 (a0 : Int) (a1 : Int) (a2 : Int) : Option (Int) :=
 ((F_95c (2:Int) (0:Int) a0 a1 a2)).bind fun r0 =>
 (some r0.1)
noncomputable def G_931 : T fa_931 → TH hN0 → Option (Int) := fun x y => F_931 x.1 x.2.1 x.2.2.1
noncomputable def c_931 : Orc := ent i_931 [] 0 (sp fa_931 hN0 fr_931 hN0 G_931 (outN fr_931))
theorem ok_931 : OrcOk PR c_931 := fnT okO_931 mixed p_931 (by kernel_rfl) (by kernel_rfl) (L := L0) (kp := false) (by kernel_rfl) (inn := (innN fr_931)) (out := (outN fr_931)) (fun _ _ => rfl) (loopsL (l := []) (by kernel_rfl) trivial) (fun x y => by kernel_rfl)
noncomputable def O_935 : Orc := (orm c_962 (orm c_93c (orm c_93b (orm c_963 (orm c_964 (orm c_965 (orm c_966 c_95d)))))))
theorem okO_935 : OrcOk PR O_935 := (orm_ok ok_962 (orm_ok ok_93c (orm_ok ok_93b (orm_ok ok_963 (orm_ok ok_964 (orm_ok ok_965 (orm_ok ok_966 ok_95d)))))))
abbrev fa_935 : Fm := (.pair (.i .i64) (.pair (.i .i64) (.pair (.i .u32) (.pair (.i .u32) .unit))))
abbrev fr_935 : Fm := (.tup (.pair (.i .u32) (.pair (.agg (.pair .b (.pair .b (.pair .b (.pair .b (.pair .b .unit)))))) .unit)))
noncomputable def F_935 (a0 : Int) (a1 : Int) (a2 : Int) (a3 : Int) : Option (Int × (Bool × Bool × Bool × Bool × Bool × Unit) × Unit) :=
 ((F_962 a0 [a2, a3])).bind fun r0 =>
 let x1 : Bool := r0.2.2.1
 bif x1 then
 (some (r0.1, (r0.2.1, ())))
 else
 ((F_93c a0 a2)).bind fun r2 =>
 ((F_93c a0 a3)).bind fun r3 =>
 bif r2 then
 ((F_93b a0 a2)).bind fun r4 =>
 ((F_93b a0 a3)).bind fun r5 =>
 ((F_963 a0 r4 r5 r2 r3)).bind fun r6 =>
 (some r6)
 else
 bif r3 then
 ((F_93b a0 a2)).bind fun r7 =>
 ((F_93b a0 a3)).bind fun r8 =>
 ((F_963 a0 r7 r8 r2 r3)).bind fun r9 =>
 (some r9)
 else
 ((F_964 a0 a2)).bind fun r10 =>
 ((F_964 a0 a3)).bind fun r11 =>
 ((F_965 r10 r11)).bind fun r12 =>
 let x13 : Int := r12.2.2.1
 let x14 : Bool := r12.2.2.2.1
 bif (x13 == (0:Int)) then
 bif (!x14) then
 ((F_966 a0 a1 r10.1 r11.1)).bind fun r15 =>
 (some (r15, ((false, (false, (false, (false, (false, ()))))), ())))
 else
 ((F_95d a0 a1 r12.1 r12.2.1 x13 x14)).bind fun r16 =>
 (some r16)
 else
 ((F_95d a0 a1 r12.1 r12.2.1 x13 x14)).bind fun r17 =>
 (some r17)
noncomputable def G_935 : T fa_935 → TH hN0 → Option (Int × (Bool × Bool × Bool × Bool × Bool × Unit) × Unit) := fun x y => F_935 x.1 x.2.1 x.2.2.1 x.2.2.2.1
noncomputable def c_935 : Orc := ent i_935 [] 0 (sp fa_935 hN0 fr_935 hN0 G_935 (outN fr_935))
theorem ok_935 : OrcOk PR c_935 := fnT okO_935 mixed p_935 (by kernel_rfl) (by kernel_rfl) (L := L0) (kp := false) (by kernel_rfl) (inn := (innN fr_935)) (out := (outN fr_935)) (fun _ _ => rfl) (loopsL (l := []) (by kernel_rfl) trivial) (fun x y => by kernel_rfl)
noncomputable def O_936 : Orc := (orm c_962 (orm c_967 c_935))
theorem okO_936 : OrcOk PR O_936 := (orm_ok ok_962 (orm_ok ok_967 ok_935))
abbrev fa_936 : Fm := (.pair (.i .i64) (.pair (.i .i64) (.pair (.i .u32) (.pair (.i .u32) .unit))))
abbrev fr_936 : Fm := (.tup (.pair (.i .u32) (.pair (.agg (.pair .b (.pair .b (.pair .b (.pair .b (.pair .b .unit)))))) .unit)))
noncomputable def F_936 (a0 : Int) (a1 : Int) (a2 : Int) (a3 : Int) : Option (Int × (Bool × Bool × Bool × Bool × Bool × Unit) × Unit) :=
 ((F_962 a0 [a2, a3])).bind fun r0 =>
 let x1 : Bool := r0.2.2.1
 bif x1 then
 (some (r0.1, (r0.2.1, ())))
 else
 ((F_967 a0 a3)).bind fun r2 =>
 ((F_935 a0 a1 a2 r2)).bind fun r3 =>
 (some r3)
noncomputable def G_936 : T fa_936 → TH hN0 → Option (Int × (Bool × Bool × Bool × Bool × Bool × Unit) × Unit) := fun x y => F_936 x.1 x.2.1 x.2.2.1 x.2.2.2.1
noncomputable def c_936 : Orc := ent i_936 [] 0 (sp fa_936 hN0 fr_936 hN0 G_936 (outN fr_936))
theorem ok_936 : OrcOk PR c_936 := fnT okO_936 mixed p_936 (by kernel_rfl) (by kernel_rfl) (L := L0) (kp := false) (by kernel_rfl) (inn := (innN fr_936)) (out := (outN fr_936)) (fun _ _ => rfl) (loopsL (l := []) (by kernel_rfl) trivial) (fun x y => by kernel_rfl)
noncomputable def O_919 : Orc := c_935
theorem okO_919 : OrcOk PR O_919 := ok_935
abbrev fa_919 : Fm := (.pair (.i .u32) (.pair (.i .u32) .unit))
abbrev fr_919 : Fm := (.i .u32)
noncomputable def F_919 (a0 : Int) (a1 : Int) : Option (Int) :=
 ((F_935 (2:Int) (0:Int) a0 a1)).bind fun r0 =>
 (some r0.1)
noncomputable def G_919 : T fa_919 → TH hN0 → Option (Int) := fun x y => F_919 x.1 x.2.1
noncomputable def c_919 : Orc := ent i_919 [] 0 (sp fa_919 hN0 fr_919 hN0 G_919 (outN fr_919))
theorem ok_919 : OrcOk PR c_919 := fnT okO_919 mixed p_919 (by kernel_rfl) (by kernel_rfl) (L := L0) (kp := false) (by kernel_rfl) (inn := (innN fr_919)) (out := (outN fr_919)) (fun _ _ => rfl) (loopsL (l := []) (by kernel_rfl) trivial) (fun x y => by kernel_rfl)
noncomputable def O_91a : Orc := c_936
theorem okO_91a : OrcOk PR O_91a := ok_936
abbrev fa_91a : Fm := (.pair (.i .u32) (.pair (.i .u32) .unit))
abbrev fr_91a : Fm := (.i .u32)
noncomputable def F_91a (a0 : Int) (a1 : Int) : Option (Int) :=
 ((F_936 (2:Int) (0:Int) a0 a1)).bind fun r0 =>
 (some r0.1)
noncomputable def G_91a : T fa_91a → TH hN0 → Option (Int) := fun x y => F_91a x.1 x.2.1
noncomputable def c_91a : Orc := ent i_91a [] 0 (sp fa_91a hN0 fr_91a hN0 G_91a (outN fr_91a))
theorem ok_91a : OrcOk PR c_91a := fnT okO_91a mixed p_91a (by kernel_rfl) (by kernel_rfl) (L := L0) (kp := false) (by kernel_rfl) (inn := (innN fr_91a)) (out := (outN fr_91a)) (fun _ _ => rfl) (loopsL (l := []) (by kernel_rfl) trivial) (fun x y => by kernel_rfl)
noncomputable def O_992 : Orc := (orm c_93e (orm c_98f c_990))
theorem okO_992 : OrcOk PR O_992 := (orm_ok ok_93e (orm_ok ok_98f ok_990))
abbrev fa_992 : Fm := (.pair (.agg (.pair .b (.pair (.i .i64) (.pair (.i .u64) (.pair .b .unit))))) (.pair (.i .i64) .unit))
abbrev fr_992 : Fm := (.tup (.pair (.i .u64) (.pair .b .unit)))
noncomputable def F_992 (a0 : Bool × Int × Int × Bool × Unit) (a1 : Int) : Option (Int × Bool × Unit) :=
 let x0 : Int := a0.2.2.1
 ((F_93e x0)).bind fun r1 =>
 bif (decide ((IntKind.wrap .i64 (a0.2.1 + r1)) > (40:Int))) then
 (some ((1099511627776:Int), (false, ())))
 else
 ((F_98f x0 (IntKind.wrap .i64 ((0:Int) - a0.2.1)) false)).bind fun r2 =>
 ((F_990 a1 a0.1 r2.1 r2.2.1)).bind fun r3 =>
 (some ((bif r3 then (IntKind.wrap .u64 (r2.1 + (1:Int))) else r2.1), ((r2.2.1 != (0:Int)), ())))
noncomputable def G_992 : T fa_992 → TH hN0 → Option (Int × Bool × Unit) := fun x y => F_992 x.1 x.2.1
noncomputable def c_992 : Orc := ent i_992 [] 0 (sp fa_992 hN0 fr_992 hN0 G_992 (outN fr_992))
theorem ok_992 : OrcOk PR c_992 := fnT okO_992 mixed p_992 (by kernel_rfl) (by kernel_rfl) (L := L0) (kp := false) (by kernel_rfl) (inn := (innN fr_992)) (out := (outN fr_992)) (fun _ _ => rfl) (loopsL (l := []) (by kernel_rfl) trivial) (fun x y => by kernel_rfl)
noncomputable def O_960 : Orc := (orm c_985 (orm c_964 c_992))
theorem okO_960 : OrcOk PR O_960 := (orm_ok ok_985 (orm_ok ok_964 ok_992))
abbrev fa_960 : Fm := (.pair (.i .i64) (.pair (.i .i64) (.pair (.i .u32) .unit)))
abbrev fr_960 : Fm := (.tup (.pair (.i .i32) (.pair (.agg (.pair .b (.pair .b (.pair .b (.pair .b (.pair .b .unit)))))) .unit)))
noncomputable def F_960 (a0 : Int) (a1 : Int) (a2 : Int) : Option (Int × (Bool × Bool × Bool × Bool × Bool × Unit) × Unit) :=
 ((F_985 a0 a2)).bind fun r0 =>
 bif r0 then
 ((F_964 a0 a2)).bind fun r1 =>
 ((F_992 r1 a1)).bind fun r2 =>
 let x3 : Int := (IntKind.wrap .i64 r2.1)
 let x4 : Int := (bif r1.1 then (IntKind.wrap .i64 ((0:Int) - x3)) else x3)
 let x5 : Int := (IntKind.wrap .i32 x4)
 bif (x4 == (IntKind.wrap .i64 x5)) then
 (some (x5, ((false, (false, (false, (false, r2.2)))), ())))
 else
 (some ((-(2147483648:Int)), ((true, (false, (false, (false, (false, ()))))), ())))
 else
 (some ((-(2147483648:Int)), ((true, (false, (false, (false, (false, ()))))), ())))
noncomputable def G_960 : T fa_960 → TH hN0 → Option (Int × (Bool × Bool × Bool × Bool × Bool × Unit) × Unit) := fun x y => F_960 x.1 x.2.1 x.2.2.1
noncomputable def c_960 : Orc := ent i_960 [] 0 (sp fa_960 hN0 fr_960 hN0 G_960 (outN fr_960))
theorem ok_960 : OrcOk PR c_960 := fnT okO_960 mixed p_960 (by kernel_rfl) (by kernel_rfl) (L := L0) (kp := false) (by kernel_rfl) (inn := (innN fr_960)) (out := (outN fr_960)) (fun _ _ => rfl) (loopsL (l := []) (by kernel_rfl) trivial) (fun x y => by kernel_rfl)
noncomputable def O_95e : Orc := orn
theorem okO_95e : OrcOk PR O_95e := (orn_ok _)
abbrev fa_95e : Fm := (.pair (.i .i64) .unit)
abbrev fr_95e : Fm := (.i .u64)
noncomputable def F_95e (a0 : Int) : Option (Int) :=
 bif (decide (a0 < (0:Int))) then
 (some (IntKind.wrap .u64 ((0:Int) - (IntKind.wrap .u64 a0))))
 else
 (some (IntKind.wrap .u64 a0))
noncomputable def G_95e : T fa_95e → TH hN0 → Option (Int) := fun x y => F_95e x.1
noncomputable def c_95e : Orc := ent i_95e [] 0 (sp fa_95e hN0 fr_95e hN0 G_95e (outN fr_95e))
theorem ok_95e : OrcOk PR c_95e := fnT okO_95e mixed p_95e (by kernel_rfl) (by kernel_rfl) (L := L0) (kp := false) (by kernel_rfl) (inn := (innN fr_95e)) (out := (outN fr_95e)) (fun _ _ => rfl) (loopsL (l := []) (by kernel_rfl) trivial) (fun x y => by kernel_rfl)
noncomputable def O_933 : Orc := (orm c_95e c_95d)
theorem okO_933 : OrcOk PR O_933 := (orm_ok ok_95e ok_95d)
abbrev fa_933 : Fm := (.pair (.i .i64) (.pair (.i .i64) (.pair (.i .i64) .unit)))
abbrev fr_933 : Fm := (.tup (.pair (.i .u32) (.pair (.agg (.pair .b (.pair .b (.pair .b (.pair .b (.pair .b .unit)))))) .unit)))
noncomputable def F_933 (a0 : Int) (a1 : Int) (a2 : Int) : Option (Int × (Bool × Bool × Bool × Bool × Bool × Unit) × Unit) :=
 ((F_95e a2)).bind fun r0 =>
 ((F_95d a0 a1 (decide (a2 < (0:Int))) (0:Int) r0 false)).bind fun r1 =>
 (some r1)
noncomputable def G_933 : T fa_933 → TH hN0 → Option (Int × (Bool × Bool × Bool × Bool × Bool × Unit) × Unit) := fun x y => F_933 x.1 x.2.1 x.2.2.1
noncomputable def c_933 : Orc := ent i_933 [] 0 (sp fa_933 hN0 fr_933 hN0 G_933 (outN fr_933))
theorem ok_933 : OrcOk PR c_933 := fnT okO_933 mixed p_933 (by kernel_rfl) (by kernel_rfl) (L := L0) (kp := false) (by kernel_rfl) (inn := (innN fr_933)) (out := (outN fr_933)) (fun _ _ => rfl) (loopsL (l := []) (by kernel_rfl) trivial) (fun x y => by kernel_rfl)
noncomputable def O_918 : Orc := c_933
theorem okO_918 : OrcOk PR O_918 := ok_933
abbrev fa_918 : Fm := (.pair (.i .i64) .unit)
abbrev fr_918 : Fm := (.i .u32)
noncomputable def F_918 (a0 : Int) : Option (Int) :=
 ((F_933 (2:Int) (0:Int) a0)).bind fun r0 =>
 (some r0.1)
noncomputable def G_918 : T fa_918 → TH hN0 → Option (Int) := fun x y => F_918 x.1
noncomputable def c_918 : Orc := ent i_918 [] 0 (sp fa_918 hN0 fr_918 hN0 G_918 (outN fr_918))
theorem ok_918 : OrcOk PR c_918 := fnT okO_918 mixed p_918 (by kernel_rfl) (by kernel_rfl) (L := L0) (kp := false) (by kernel_rfl) (inn := (innN fr_918)) (out := (outN fr_918)) (fun _ _ => rfl) (loopsL (l := []) (by kernel_rfl) trivial) (fun x y => by kernel_rfl)
noncomputable def O_994 : Orc := (orm c_962 (orm c_97b (orm c_93c c_939)))
theorem okO_994 : OrcOk PR O_994 := (orm_ok ok_962 (orm_ok ok_97b (orm_ok ok_93c ok_939)))
abbrev fa_994 : Fm := (.pair (.i .i64) (.pair (.i .u32) .unit))
abbrev fr_994 : Fm := (.tup (.pair (.i .u32) (.pair (.agg (.pair .b (.pair .b (.pair .b (.pair .b (.pair .b .unit)))))) (.pair .b .unit))))
noncomputable def F_994 (a0 : Int) (a1 : Int) : Option (Int × (Bool × Bool × Bool × Bool × Bool × Unit) × Bool × Unit) :=
 ((F_962 a0 [a1])).bind fun r0 =>
 let x1 : Bool := r0.2.2.1
 bif x1 then
 (some (r0.1, (r0.2.1, (true, ()))))
 else
 ((F_97b a0)).bind fun r2 =>
 let x3 : Int := (bits .and .u32 a1 r2)
 ((F_93c a0 a1)).bind fun r4 =>
 bif r4 then
 (some (x3, ((false, (false, (false, (false, (false, ()))))), (true, ()))))
 else
 ((F_939 a0 a1)).bind fun r5 =>
 (some (x3, ((false, (false, (false, (false, (false, ()))))), (r5, ()))))
noncomputable def G_994 : T fa_994 → TH hN0 → Option (Int × (Bool × Bool × Bool × Bool × Bool × Unit) × Bool × Unit) := fun x y => F_994 x.1 x.2.1
noncomputable def c_994 : Orc := ent i_994 [] 0 (sp fa_994 hN0 fr_994 hN0 G_994 (outN fr_994))
theorem ok_994 : OrcOk PR c_994 := fnT okO_994 mixed p_994 (by kernel_rfl) (by kernel_rfl) (L := L0) (kp := false) (by kernel_rfl) (inn := (innN fr_994)) (out := (outN fr_994)) (fun _ _ => rfl) (loopsL (l := []) (by kernel_rfl) trivial) (fun x y => by kernel_rfl)
noncomputable def O_971 : Orc := (orm c_994 (orm c_964 c_95d))
theorem okO_971 : OrcOk PR O_971 := (orm_ok ok_994 (orm_ok ok_964 ok_95d))
abbrev fa_971 : Fm := (.pair (.i .i64) (.pair (.i .i64) (.pair (.i .u32) (.pair (.i .i64) .unit))))
abbrev fr_971 : Fm := (.tup (.pair (.i .u32) (.pair (.agg (.pair .b (.pair .b (.pair .b (.pair .b (.pair .b .unit)))))) .unit)))
noncomputable def F_971 (a0 : Int) (a1 : Int) (a2 : Int) (a3 : Int) : Option (Int × (Bool × Bool × Bool × Bool × Bool × Unit) × Unit) :=
 ((F_994 a0 a2)).bind fun r0 =>
 let x1 : Bool := r0.2.2.1
 bif x1 then
 (some (r0.1, (r0.2.1, ())))
 else
 ((F_964 a0 a2)).bind fun r2 =>
 let x3 : Int := r2.2.2.1
 ((F_95d a0 a1 r2.1 (IntKind.wrap .i64 (r2.2.1 + (mn (mx a3 (-(5000:Int))) (5000:Int)))) x3 false)).bind fun r4 =>
 (some r4)
noncomputable def G_971 : T fa_971 → TH hN0 → Option (Int × (Bool × Bool × Bool × Bool × Bool × Unit) × Unit) := fun x y => F_971 x.1 x.2.1 x.2.2.1 x.2.2.2.1
noncomputable def c_971 : Orc := ent i_971 [] 0 (sp fa_971 hN0 fr_971 hN0 G_971 (outN fr_971))
theorem ok_971 : OrcOk PR c_971 := fnT okO_971 mixed p_971 (by kernel_rfl) (by kernel_rfl) (L := L0) (kp := false) (by kernel_rfl) (inn := (innN fr_971)) (out := (outN fr_971)) (fun _ _ => rfl) (loopsL (l := []) (by kernel_rfl) trivial) (fun x y => by kernel_rfl)
noncomputable def O_93f : Orc := c_971
theorem okO_93f : OrcOk PR O_93f := ok_971
abbrev fa_93f : Fm := (.pair (.i .u32) (.pair (.i .i64) .unit))
abbrev fr_93f : Fm := (.i .u32)
noncomputable def F_93f (a0 : Int) (a1 : Int) : Option (Int) :=
 ((F_971 (2:Int) (0:Int) a0 a1)).bind fun r0 =>
 (some r0.1)
noncomputable def G_93f : T fa_93f → TH hN0 → Option (Int) := fun x y => F_93f x.1 x.2.1
noncomputable def c_93f : Orc := ent i_93f [] 0 (sp fa_93f hN0 fr_93f hN0 G_93f (outN fr_93f))
theorem ok_93f : OrcOk PR c_93f := fnT okO_93f mixed p_93f (by kernel_rfl) (by kernel_rfl) (L := L0) (kp := false) (by kernel_rfl) (inn := (innN fr_93f)) (out := (outN fr_93f)) (fun _ _ => rfl) (loopsL (l := []) (by kernel_rfl) trivial) (fun x y => by kernel_rfl)
noncomputable def O_943 : Orc := (orm c_962 (orm c_93b (orm c_96a (orm c_974 (orm c_93a (orm c_975 (orm c_964 (orm c_93e (orm c_976 c_95d)))))))))
theorem okO_943 : OrcOk PR O_943 := (orm_ok ok_962 (orm_ok ok_93b (orm_ok ok_96a (orm_ok ok_974 (orm_ok ok_93a (orm_ok ok_975 (orm_ok ok_964 (orm_ok ok_93e (orm_ok ok_976 ok_95d)))))))))
abbrev fa_943 : Fm := (.pair (.i .i64) (.pair (.i .i64) (.pair (.i .u32) (.pair (.i .u32) .unit))))
abbrev fr_943 : Fm := (.tup (.pair (.i .u32) (.pair (.agg (.pair .b (.pair .b (.pair .b (.pair .b (.pair .b .unit)))))) .unit)))
noncomputable def F_943 (a0 : Int) (a1 : Int) (a2 : Int) (a3 : Int) : Option (Int × (Bool × Bool × Bool × Bool × Bool × Unit) × Unit) :=
 ((F_962 a0 [a2, a3])).bind fun r0 =>
 let x1 : Bool := r0.2.2.1
 bif x1 then
 (some (r0.1, (r0.2.1, ())))
 else
 ((F_93b a0 a2)).bind fun r2 =>
 ((F_93b a0 a3)).bind fun r3 =>
 let x4 : Bool := (!(r2 == r3))
 ((F_96a a0 a2)).bind fun r5 =>
 ((F_96a a0 a3)).bind fun r6 =>
 bif (r5 == r6) then
 bif (r5 == (0:Int)) then
 ((F_974 a0)).bind fun r7 =>
 (some r7)
 else
 bif (r5 == (3:Int)) then
 ((F_974 a0)).bind fun r8 =>
 (some r8)
 else
 bif (r5 == (3:Int)) then
 ((F_93a a0 x4)).bind fun r9 =>
 (some (r9, ((false, (false, (false, (false, (false, ()))))), ())))
 else
 bif (r6 == (3:Int)) then
 ((F_975 a0 x4)).bind fun r10 =>
 (some (r10, ((false, (false, (false, (false, (false, ()))))), ())))
 else
 bif (r5 == (0:Int)) then
 ((F_975 a0 x4)).bind fun r11 =>
 (some (r11, ((false, (false, (false, (false, (false, ()))))), ())))
 else
 bif (r6 == (0:Int)) then
 ((F_93a a0 x4)).bind fun r12 =>
 (some (r12, ((false, (true, (false, (false, (false, ()))))), ())))
 else
 ((F_964 a0 a2)).bind fun r13 =>
 let x14 : Int := r13.2.2.1
 ((F_964 a0 a3)).bind fun r15 =>
 let x16 : Int := r15.2.2.1
 let x17 : Bool := (x16 == (0:Int))
 ((F_93e x14)).bind fun r18 =>
 let x19 : Int := (IntKind.wrap .i64 ((62:Int) - r18))
 ((F_976 x14 (IntKind.wrap .i64 ((0:Int) - x19)))).bind fun r20 =>
 bif x17 then
 none
 else
 bif x17 then
 none
 else
 ((F_95d a0 a1 x4 (IntKind.wrap .i64 ((IntKind.wrap .i64 (r13.2.1 - x19)) - r15.2.1)) (IntKind.wrap .u64 (Int.tdiv r20.1 x16)) ((Int.tmod r20.1 x16) != (0:Int)))).bind fun r21 =>
 (some r21)
 else
 bif (r5 == (3:Int)) then
 ((F_93a a0 x4)).bind fun r22 =>
 (some (r22, ((false, (false, (false, (false, (false, ()))))), ())))
 else
 bif (r6 == (3:Int)) then
 ((F_975 a0 x4)).bind fun r23 =>
 (some (r23, ((false, (false, (false, (false, (false, ()))))), ())))
 else
 bif (r5 == (0:Int)) then
 ((F_975 a0 x4)).bind fun r24 =>
 (some (r24, ((false, (false, (false, (false, (false, ()))))), ())))
 else
 bif (r6 == (0:Int)) then
 ((F_93a a0 x4)).bind fun r25 =>
 (some (r25, ((false, (true, (false, (false, (false, ()))))), ())))
 else
 ((F_964 a0 a2)).bind fun r26 =>
 let x27 : Int := r26.2.2.1
 ((F_964 a0 a3)).bind fun r28 =>
 let x29 : Int := r28.2.2.1
 let x30 : Bool := (x29 == (0:Int))
 ((F_93e x27)).bind fun r31 =>
 let x32 : Int := (IntKind.wrap .i64 ((62:Int) - r31))
 ((F_976 x27 (IntKind.wrap .i64 ((0:Int) - x32)))).bind fun r33 =>
 bif x30 then
 none
 else
 bif x30 then
 none
 else
 ((F_95d a0 a1 x4 (IntKind.wrap .i64 ((IntKind.wrap .i64 (r26.2.1 - x32)) - r28.2.1)) (IntKind.wrap .u64 (Int.tdiv r33.1 x29)) ((Int.tmod r33.1 x29) != (0:Int)))).bind fun r34 =>
 (some r34)
noncomputable def G_943 : T fa_943 → TH hN0 → Option (Int × (Bool × Bool × Bool × Bool × Bool × Unit) × Unit) := fun x y => F_943 x.1 x.2.1 x.2.2.1 x.2.2.2.1
noncomputable def c_943 : Orc := ent i_943 [] 0 (sp fa_943 hN0 fr_943 hN0 G_943 (outN fr_943))
theorem ok_943 : OrcOk PR c_943 := fnT okO_943 mixed p_943 (by kernel_rfl) (by kernel_rfl) (L := L0) (kp := false) (by kernel_rfl) (inn := (innN fr_943)) (out := (outN fr_943)) (fun _ _ => rfl) (loopsL (l := []) (by kernel_rfl) trivial) (fun x y => by kernel_rfl)
noncomputable def O_91b : Orc := c_943
theorem okO_91b : OrcOk PR O_91b := ok_943
abbrev fa_91b : Fm := (.pair (.i .u32) (.pair (.i .u32) .unit))
abbrev fr_91b : Fm := (.i .u32)
noncomputable def F_91b (a0 : Int) (a1 : Int) : Option (Int) :=
 ((F_943 (2:Int) (0:Int) a0 a1)).bind fun r0 =>
 (some r0.1)
noncomputable def G_91b : T fa_91b → TH hN0 → Option (Int) := fun x y => F_91b x.1 x.2.1
noncomputable def c_91b : Orc := ent i_91b [] 0 (sp fa_91b hN0 fr_91b hN0 G_91b (outN fr_91b))
theorem ok_91b : OrcOk PR c_91b := fnT okO_91b mixed p_91b (by kernel_rfl) (by kernel_rfl) (L := L0) (kp := false) (by kernel_rfl) (inn := (innN fr_91b)) (out := (outN fr_91b)) (fun _ _ => rfl) (loopsL (l := []) (by kernel_rfl) trivial) (fun x y => by kernel_rfl)
noncomputable def O_950 : Orc := (orm c_96a (orm c_969 (orm c_974 (orm c_93b (orm c_93a (orm c_964 c_95d))))))
theorem okO_950 : OrcOk PR O_950 := (orm_ok ok_96a (orm_ok ok_969 (orm_ok ok_974 (orm_ok ok_93b (orm_ok ok_93a (orm_ok ok_964 ok_95d))))))
abbrev fa_950 : Fm := (.pair (.i .i64) (.pair (.i .i64) (.pair (.i .i64) (.pair (.i .u32) .unit))))
abbrev fr_950 : Fm := (.tup (.pair (.i .u32) (.pair (.agg (.pair .b (.pair .b (.pair .b (.pair .b (.pair .b .unit)))))) .unit)))
noncomputable def F_950 (a0 : Int) (a1 : Int) (a2 : Int) (a3 : Int) : Option (Int × (Bool × Bool × Bool × Bool × Bool × Unit) × Unit) :=
 ((F_96a a0 a3)).bind fun r0 =>
 bif (r0 == (4:Int)) then
 ((F_969 a1)).bind fun r1 =>
 (some (r1, ((false, (false, (false, (false, (false, ()))))), ())))
 else
 bif (r0 == (5:Int)) then
 ((F_974 a1)).bind fun r2 =>
 (some r2)
 else
 bif (r0 == (3:Int)) then
 ((F_93b a0 a3)).bind fun r3 =>
 ((F_93a a1 r3)).bind fun r4 =>
 (some (r4, ((false, (false, (false, (false, (false, ()))))), ())))
 else
 ((F_964 a0 a3)).bind fun r5 =>
 let x6 : Int := r5.2.2.1
 ((F_95d a1 a2 r5.1 r5.2.1 x6 false)).bind fun r7 =>
 (some r7)
noncomputable def G_950 : T fa_950 → TH hN0 → Option (Int × (Bool × Bool × Bool × Bool × Bool × Unit) × Unit) := fun x y => F_950 x.1 x.2.1 x.2.2.1 x.2.2.2.1
noncomputable def c_950 : Orc := ent i_950 [] 0 (sp fa_950 hN0 fr_950 hN0 G_950 (outN fr_950))
theorem ok_950 : OrcOk PR c_950 := fnT okO_950 mixed p_950 (by kernel_rfl) (by kernel_rfl) (L := L0) (kp := false) (by kernel_rfl) (inn := (innN fr_950)) (out := (outN fr_950)) (fun _ _ => rfl) (loopsL (l := []) (by kernel_rfl) trivial) (fun x y => by kernel_rfl)
noncomputable def O_980 : Orc := c_950
theorem okO_980 : OrcOk PR O_980 := ok_950
abbrev fa_980 : Fm := (.pair (.i .i64) (.pair (.i .u32) .unit))
abbrev fr_980 : Fm := (.i .u32)
noncomputable def F_980 (a0 : Int) (a1 : Int) : Option (Int) :=
 ((F_950 (2:Int) a0 (0:Int) a1)).bind fun r0 =>
 (some r0.1)
noncomputable def G_980 : T fa_980 → TH hN0 → Option (Int) := fun x y => F_980 x.1 x.2.1
noncomputable def c_980 : Orc := ent i_980 [] 0 (sp fa_980 hN0 fr_980 hN0 G_980 (outN fr_980))
theorem ok_980 : OrcOk PR c_980 := fnT okO_980 mixed p_980 (by kernel_rfl) (by kernel_rfl) (L := L0) (kp := false) (by kernel_rfl) (inn := (innN fr_980)) (out := (outN fr_980)) (fun _ _ => rfl) (loopsL (l := []) (by kernel_rfl) trivial) (fun x y => by kernel_rfl)
noncomputable def O_953 : Orc := c_950
theorem okO_953 : OrcOk PR O_953 := ok_950
abbrev fa_953 : Fm := (.pair (.i .i64) (.pair (.i .u32) .unit))
abbrev fr_953 : Fm := (.i .u32)
noncomputable def F_953 (a0 : Int) (a1 : Int) : Option (Int) :=
 ((F_950 a0 (2:Int) (0:Int) a1)).bind fun r0 =>
 (some r0.1)
noncomputable def G_953 : T fa_953 → TH hN0 → Option (Int) := fun x y => F_953 x.1 x.2.1
noncomputable def c_953 : Orc := ent i_953 [] 0 (sp fa_953 hN0 fr_953 hN0 G_953 (outN fr_953))
theorem ok_953 : OrcOk PR c_953 := fnT okO_953 mixed p_953 (by kernel_rfl) (by kernel_rfl) (L := L0) (kp := false) (by kernel_rfl) (inn := (innN fr_953)) (out := (outN fr_953)) (fun _ _ => rfl) (loopsL (l := []) (by kernel_rfl) trivial) (fun x y => by kernel_rfl)
noncomputable def O_937 : Orc := c_968
theorem okO_937 : OrcOk PR O_937 := ok_968
abbrev fa_937 : Fm := (.pair (.i .u32) .unit)
abbrev fr_937 : Fm := .b
noncomputable def F_937 (a0 : Int) : Option (Bool) :=
 ((F_968 (2:Int) a0)).bind fun r0 =>
 (some r0)
noncomputable def G_937 : T fa_937 → TH hN0 → Option (Bool) := fun x y => F_937 x.1
noncomputable def c_937 : Orc := ent i_937 [] 0 (sp fa_937 hN0 fr_937 hN0 G_937 (outN fr_937))
theorem ok_937 : OrcOk PR c_937 := fnT okO_937 mixed p_937 (by kernel_rfl) (by kernel_rfl) (L := L0) (kp := false) (by kernel_rfl) (inn := (innN fr_937)) (out := (outN fr_937)) (fun _ _ => rfl) (loopsL (l := []) (by kernel_rfl) trivial) (fun x y => by kernel_rfl)
noncomputable def O_938 : Orc := c_969
theorem okO_938 : OrcOk PR O_938 := ok_969
abbrev fa_938 : Fm := .unit
abbrev fr_938 : Fm := (.i .u32)
noncomputable def F_938  : Option (Int) :=
 (some (2143289344:Int))
noncomputable def G_938 : T fa_938 → TH hN0 → Option (Int) := fun x y => F_938
noncomputable def c_938 : Orc := ent i_938 [] 0 (sp fa_938 hN0 fr_938 hN0 G_938 (outN fr_938))
theorem ok_938 : OrcOk PR c_938 := fnT okO_938 mixed p_938 (by kernel_rfl) (by kernel_rfl) (L := L0) (kp := false) (by kernel_rfl) (inn := (innN fr_938)) (out := (outN fr_938)) (fun _ _ => rfl) (loopsL (l := []) (by kernel_rfl) trivial) (fun x y => by kernel_rfl)
noncomputable def O_961 : Orc := c_967
theorem okO_961 : OrcOk PR O_961 := ok_967
abbrev fa_961 : Fm := (.pair (.i .u32) .unit)
abbrev fr_961 : Fm := (.i .u32)
noncomputable def F_961 (a0 : Int) : Option (Int) :=
 (some (bits .xor .u32 (bits .and .u32 a0 (4294967295:Int)) (2147483648:Int)))
noncomputable def G_961 : T fa_961 → TH hN0 → Option (Int) := fun x y => F_961 x.1
noncomputable def c_961 : Orc := ent i_961 [] 0 (sp fa_961 hN0 fr_961 hN0 G_961 (outN fr_961))
theorem ok_961 : OrcOk PR c_961 := fnT okO_961 mixed p_961 (by kernel_rfl) (by kernel_rfl) (L := L0) (kp := false) (by kernel_rfl) (inn := (innN fr_961)) (out := (outN fr_961)) (fun _ _ => rfl) (loopsL (l := []) (by kernel_rfl) trivial) (fun x y => by kernel_rfl)
noncomputable def O_940 : Orc := c_972
theorem okO_940 : OrcOk PR O_940 := ok_972
abbrev fa_940 : Fm := (.pair (.i .u32) (.pair (.i .u32) .unit))
abbrev fr_940 : Fm := .b
noncomputable def F_940 (a0 : Int) (a1 : Int) : Option (Bool) :=
 ((F_972 (2:Int) a1 a0)).bind fun r0 =>
 (some r0)
noncomputable def G_940 : T fa_940 → TH hN0 → Option (Bool) := fun x y => F_940 x.1 x.2.1
noncomputable def c_940 : Orc := ent i_940 [] 0 (sp fa_940 hN0 fr_940 hN0 G_940 (outN fr_940))
theorem ok_940 : OrcOk PR c_940 := fnT okO_940 mixed p_940 (by kernel_rfl) (by kernel_rfl) (L := L0) (kp := false) (by kernel_rfl) (inn := (innN fr_940)) (out := (outN fr_940)) (fun _ _ => rfl) (loopsL (l := []) (by kernel_rfl) trivial) (fun x y => by kernel_rfl)
end Go.Proofs.YtkmkhcmfpbffjaaGreat.VI
