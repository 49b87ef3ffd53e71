import Derived.Test.YtkmkhcmfpbffjaaGreatTd58ac67d
import Derived.Test.YtkmkhcmfpbffjaaGreatRows
import Derived.WalkKit
import Derived.ProofKit
namespace Go.Proofs.YtkmkhcmfpbffjaaGreat.VI
set_option linter.unusedVariables false
set_option linter.unusedSimpArgs false
set_option maxRecDepth 100000
set_option maxHeartbeats 4000000
theorem gl_mapA {h : Nat → Int} {n i : Nat} (hi : i < n) : gl ((List.range n).map h) i = h i := by
  unfold gl; rw [List.getD_eq_getElem?_getD]; simp [hi]
theorem wideL_get (t : TsT) {i : Nat} (h : i < t.2.2.2.1.length) : gl (wideL t) i = widen t.2.2.1 (t.2.2.2.1.getD i 0) := by
  unfold wideL; rw [gl_mapA h]
theorem act_k (k : Int) : F_982 k = some (decide (0 ≤ k ∧ k ≤ 3)) := by
  unfold F_982
  simp only [bif_dec]
  by_cases h : 0 ≤ k <;> simp [h]
def fwdL (k : Int) (t : TsT) : List Int := (List.range t.2.2.2.1.length).map (fun i => narrow t.2.2.1 (valS k (widen t.2.2.1 (t.2.2.2.1.getD i 0))))
def fwdT (k : Int) (t : TsT) : TsT × Int × Unit := if rightS t then (if 0 ≤ k ∧ k ≤ 3 then ((t.1, t.2.1, t.2.2.1, fwdL k t, ()), 0, ()) else (noT, 22, ())) else (noT, 21, ())
theorem fwd_all (t : TsT) (k : Int) (hl : wl t.2.2.2.1) (hn : t.2.2.2.1.length ≤ 1073741824) : F_951 k t = some (fwdT k t) := by
  unfold fwdT
  by_cases hr : rightS t = true
  · rw [if_pos hr]
    by_cases hk : 0 ≤ k ∧ k ≤ 3
    · rw [if_pos hk, fwd_eq t k (valS k) (fun x hx => ⟨val_eq k hx, val_w k hx⟩) hl hn hk hr]; rfl
    · rw [if_neg hk]
      obtain ⟨r, c, f, l, ⟨⟩⟩ := t
      simp only at hl hn
      unfold F_951
      dsimp only
      simp only [List.take_length]
      have e0 : List.getD [k] 0 0 = k := rfl
      rw [right_eq (r, c, f, l, ()) hl (by simp only; omega), hr, e0, act_k]
      simp only [Option.bind_some, Bool.not_true, cond_false]
      rw [decide_eq_false hk]; rfl
  · rw [if_neg hr]
    rw [Bool.not_eq_true] at hr
    obtain ⟨r, c, f, l, ⟨⟩⟩ := t
    simp only at hl hn
    unfold F_951
    dsimp only
    simp only [List.take_length]
    rw [right_eq (r, c, f, l, ()) hl (by simp only; omega), hr]
    rfl
end Go.Proofs.YtkmkhcmfpbffjaaGreat.VI

namespace Go.Proofs.YtkmkhcmfpbffjaaGreat.VI
set_option linter.unusedVariables false
set_option linter.unusedSimpArgs false
set_option maxRecDepth 100000
set_option maxHeartbeats 4000000
theorem eachC_eq (t z : TsT) (g k : Int) (hl : wl t.2.2.2.1) (hn : t.2.2.2.1.length ≤ 1073741824) :
    F_9ac t g z [k] = some ((t.1, t.2.1, g, (List.range t.2.2.2.1.length).map (fun i => (toS z.2.2.1 k 0 (t.2.2.2.1.getD i 0)).1), ()), (z, ([k], ()))) := by
  obtain ⟨r, c, f, l, ⟨⟩⟩ := t
  obtain ⟨b1, b2, b3, b4, ⟨⟩⟩ := z
  simp only at hl hn ⊢
  have := lim_seq (st := st_9ac_0) (fun i => ((l, ((l.length : Int), ((i : Int), ()))), ((b1, (b2, (b3, (b4, ())))), ([k], (((0:Int), ((0:Int), ((0:Int), ()))), ((r, (c, (g, (l.length, ())))), (lay1 (fun i => (toS b3 k 0 (l.getD i 0)).1) l.length i, ())))))))
    (b := ((), ((b1, (b2, (b3, (b4, ())))), ([k], (((0:Int), ((0:Int), ((0:Int), ()))), ((r, (c, (g, (l.length, ())))), (lay1 (fun i => (toS b3 k 0 (l.getD i 0)).1) l.length l.length, ()))))))) l.length
    (fun i hi R kn ko => by
      have hll := lay1_len (fun i => (toS b3 k 0 (l.getD i 0)).1) (Nat.le_of_lt hi)
      have hls := lay1_set (fun i => (toS b3 k 0 (l.getD i 0)).1) hi
      unfold st_9ac_0 F_955
      dsimp only at hls ⊢
      simp only [List.take_length, bif_dec, hll, Int.toNat_natCast]
      have e0 : List.getD [k] 0 0 = k := rfl
      rw [if_pos (by omega), if_pos (by omega), if_pos (show 0 < [k].length by simp), e0, to_eq b3 k 0 (wl_get hl i)]
      simp only [Option.bind_some]
      rw [if_pos (show (0 : Int) ≤ (i : Int) ∧ (i : Int) < (l.length : Int) by omega), if_pos (show 0 + i * 1 < l.length by omega), show 0 + i * 1 = i by omega, hls, wi64 (by omega), show ((i + 1 : Nat) : Int) = (i : Int) + 1 by omega])
    (fun R kn ko => by
      unfold st_9ac_0
      dsimp only
      simp only [List.take_length, bif_dec]
      rw [if_neg (by omega)])
  rw [lay1_zero] at this
  unfold F_9ac
  dsimp only
  simp only [List.take_length, bif_dec, Int.toNat_natCast]
  rw [if_pos (by omega)]
  have e : lim st_9ac_0 ((l, ((l.length : Int), ((0 : Int), ()))), ((b1, (b2, (b3, (b4, ())))), ([k], (((0:Int), ((0:Int), ((0:Int), ()))), ((r, (c, (g, (l.length, ())))), (List.replicate l.length 0, ())))))) = _ := this
  rw [e]
  simp only [Option.bind_some, List.take_length, List.drop_zero, lay1_all]
  rw [List.take_of_length_le (by simp)]
def castL (t : TsT) (f : Int) : List Int := (List.range t.2.2.2.1.length).map (fun i => (toS t.2.2.1 f 0 (t.2.2.2.1.getD i 0)).1)
def castT (t : TsT) (f : Int) : TsT × Int × Unit := if rightS t = true then (if knownS f = true then ((t.1, t.2.1, f, castL t f, ()), 0, ()) else (noT, 22, ())) else (noT, 21, ())
theorem cast_eq (t : TsT) (f : Int) (hl : wl t.2.2.2.1) (hn : t.2.2.2.1.length ≤ 1073741824) : F_929 t f = some (castT t f) := by
  obtain ⟨r, c, g, l, ⟨⟩⟩ := t
  simp only at hl hn
  unfold F_929 F_9ad castT
  dsimp only
  have e0 : List.getD [f] 0 0 = f := rfl
  simp only [List.take_length, e0]
  rw [right_eq (r, c, g, l, ()) hl (by simp only; omega), known_t]
  simp only [Option.bind_some]
  cases hr : rightS (r, c, g, l, ())
  · simp
  · simp only [Bool.not_true, cond_false, if_true]
    cases hk : knownS f
    · simp
    · simp only [Bool.not_true, cond_false, if_true]
      rw [eachC_eq (r, c, g, l, ()) (r, c, g, l, ()) f f hl hn]
      simp only [Option.bind_some, List.take_length]
      rfl
theorem castr_eq (t : TsT) (f : Int) (hl : wl t.2.2.2.1) (hn : t.2.2.2.1.length ≤ 1073741824) : F_921 t f = some (castT t f) := by
  obtain ⟨r, c, g, l, ⟨⟩⟩ := t
  simp only at hl hn
  have := lim_seq (st := st_921_0) (fun (i : Nat) => ((f, ((i : Int), ())), ((r, (c, (g, (l, ())))), (((0:Int), ((0:Int), ((0:Int), ()))), ((r, (c, (f, (l.length, ())))), (lay1 (fun i => (toS g f 0 (l.getD i 0)).1) l.length i, ()))))))
    (b := ((), (((0:Int), ((0:Int), ((0:Int), ()))), ((r, (c, (f, (l.length, ())))), (lay1 (fun i => (toS g f 0 (l.getD i 0)).1) l.length l.length, ()))))) l.length
    (fun i hi R kn ko => by
      have hll := lay1_len (fun i => (toS g f 0 (l.getD i 0)).1) (Nat.le_of_lt hi)
      have hls := lay1_set (fun i => (toS g f 0 (l.getD i 0)).1) hi
      unfold st_921_0
      dsimp only at hls ⊢
      simp only [List.take_length, bif_dec, hll, Int.toNat_natCast]
      rw [if_pos (show (i : Int) < (l.length : Int) by omega), if_pos (by omega), tor_eq g f 0 (wl_get hl i)]
      simp only [Option.bind_some]
      rw [if_pos (show (0 : Int) ≤ (i : Int) ∧ (i : Int) < (l.length : Int) by omega), if_pos (show 0 + i * 1 < l.length by omega), show 0 + i * 1 = i by omega, hls, wi64 (by omega), show ((i + 1 : Nat) : Int) = (i : Int) + 1 by omega])
    (fun R kn ko => by
      unfold st_921_0
      dsimp only
      simp only [List.take_length, bif_dec]
      rw [if_neg (by omega)])
  rw [lay1_zero] at this
  unfold F_921 castT
  dsimp only
  simp only [List.take_length, bif_dec, Int.toNat_natCast]
  rw [rightr_eq (r, c, g, l, ()) hl (by simp only; omega), known_r]
  simp only [Option.bind_some]
  cases hr : rightS (r, c, g, l, ())
  · simp
  · simp only [Bool.not_true, cond_false, if_true]
    cases hk : knownS f
    · simp
    · simp only [Bool.not_true, cond_false, if_true]
      rw [if_pos (by omega)]
      have e : lim st_921_0 ((f, ((0 : Int), ())), ((r, (c, (g, (l, ())))), (((0:Int), ((0:Int), ((0:Int), ()))), ((r, (c, (f, (l.length, ())))), (List.replicate l.length 0, ()))))) = _ := this
      rw [e]
      simp only [Option.bind_some, List.take_length, List.drop_zero, lay1_all]
      rw [List.take_of_length_le (by simp)]
      rfl
end Go.Proofs.YtkmkhcmfpbffjaaGreat.VI

namespace Go.Proofs.YtkmkhcmfpbffjaaGreat.VI
set_option linter.unusedVariables false
set_option linter.unusedSimpArgs false
def wlist (k : Int) : List Int := if k = 0 then [2, 3] else if k = 1 then [3, 2, 2] else if k = 2 then [2, 4, 3] else if k = 3 then [1, 2, 2, 2] else if k = 4 then [2, 2] else [4, 3, 2]
abbrev CfgT : Type := List Int × Int × Int × Int × Int × Int × Int × Int × Int × Int × Int × Int × Int × Int × Int × Int × Int × Int × Bool × Int × Int × Int × Int × Int × Int × Int × Unit
def cfg (a b c d s : Int) : CfgT :=
  (wlist (a % 6), (a / 6) % 3, b % 4, (b / 4) % 2, (b / 8) % 4, (b / 32) % 3, [1008981770, 1036831949, 1065353216, 981668463].getD (c % 4).toNat 0, [0, 1063675494, 1056964608].getD (c / 4 % 3).toNat 0, [1065336439, 1063675494].getD (c / 12 % 2).toNat 0,
    [841731191, 981668463].getD (c / 24 % 2).toNat 0, [0, 1008981770].getD (c / 48 % 2).toNat 0, [0, 1065353216, 1036831949].getD (d % 3).toNat 0, (d / 3) % 4, (d / 3) % 4 + d % 17 + 1, (d / 9) % 4 + 1, (d / 36) % 2 + 1, s, [0, 536870912, 2147483647, 0].getD (c % 4).toNat 0, d % 5 == 0,
    b % 3 + c % (a % 25 + 1), b % 3, b % 3 + a % 25, b % 3 + 1, c % 2 + 1, d % 3 + 1, a % 4, ())
end Go.Proofs.YtkmkhcmfpbffjaaGreat.VI

namespace Go.Proofs.YtkmkhcmfpbffjaaGreat.VI
set_option linter.unusedVariables false
set_option linter.unusedSimpArgs false
set_option maxRecDepth 100000
set_option maxHeartbeats 4000000
theorem cfg_eq {a b c d s : Int} (ha : 0 ≤ a ∧ a ≤ 255) (hb : 0 ≤ b ∧ b ≤ 255) (hc : 0 ≤ c ∧ c ≤ 255) (hd : 0 ≤ d ∧ d ≤ 255) : F_9e a b c d s = some (cfg a b c d s) := by
  have e0 : Int.tmod a 6 = a % 6 := tmod_nn ha.1
  have e1 : IntKind.i64.wrap b = b := wi64 (by omega)
  have e2 : IntKind.i64.wrap a = a := wi64 (by omega)
  have e3 : IntKind.i64.wrap c = c := wi64 (by omega)
  have e4 : IntKind.i64.wrap d = d := wi64 (by omega)
  have e5 : Int.tmod b 3 = b % 3 := tmod_nn hb.1
  have e6 : Int.tmod a 25 = a % 25 := tmod_nn ha.1
  have e7 : IntKind.i64.wrap (b % 3 + a % 25) = b % 3 + a % 25 := wi64 (by omega)
  have e8 : IntKind.i64.wrap (b % 3 + a % 25 - b % 3) = a % 25 := by rw [wi64 (by omega)]; omega
  have e9 : IntKind.i64.wrap (a % 25 + 1) = a % 25 + 1 := wi64 (by omega)
  have e10 : Int.tmod c 4 = c % 4 := tmod_nn hc.1
  have e11 : IntKind.i64.wrap (IntKind.u8.wrap (Int.tdiv d 3)) = d / 3 := by rw [tdiv_nn hd.1, wu8 (by omega), wi64 (by omega)]
  have e12 : Int.tmod (d / 3) 4 = d / 3 % 4 := tmod_nn (by omega)
  have e13 : IntKind.u8.wrap (Int.tdiv c 4) = c / 4 := by rw [tdiv_nn hc.1, wu8 (by omega)]
  have e14 : Int.tmod (c / 4) 3 = c / 4 % 3 := tmod_nn (by omega)
  have e15 : IntKind.u8.wrap (Int.tdiv c 12) = c / 12 := by rw [tdiv_nn hc.1, wu8 (by omega)]
  have e16 : Int.tmod (c / 12) 2 = c / 12 % 2 := tmod_nn (by omega)
  have e17 : IntKind.u8.wrap (Int.tdiv c 24) = c / 24 := by rw [tdiv_nn hc.1, wu8 (by omega)]
  have e18 : Int.tmod (c / 24) 2 = c / 24 % 2 := tmod_nn (by omega)
  have e19 : IntKind.u8.wrap (Int.tdiv c 48) = c / 48 := by rw [tdiv_nn hc.1, wu8 (by omega)]
  have e20 : Int.tmod (c / 48) 2 = c / 48 % 2 := tmod_nn (by omega)
  have e21 : Int.tmod d 3 = d % 3 := tmod_nn hd.1
  have e22 : IntKind.i64.wrap (IntKind.u8.wrap (Int.tdiv a 6)) = a / 6 := by rw [tdiv_nn ha.1, wu8 (by omega), wi64 (by omega)]
  have e23 : Int.tmod (a / 6) 3 = a / 6 % 3 := tmod_nn (by omega)
  have e24 : Int.tmod b 4 = b % 4 := tmod_nn hb.1
  have e25 : IntKind.i64.wrap (IntKind.u8.wrap (Int.tdiv b 4)) = b / 4 := by rw [tdiv_nn hb.1, wu8 (by omega), wi64 (by omega)]
  have e26 : Int.tmod (b / 4) 2 = b / 4 % 2 := tmod_nn (by omega)
  have e27 : IntKind.i64.wrap (IntKind.u8.wrap (Int.tdiv b 8)) = b / 8 := by rw [tdiv_nn hb.1, wu8 (by omega), wi64 (by omega)]
  have e28 : Int.tmod (b / 8) 4 = b / 8 % 4 := tmod_nn (by omega)
  have e29 : IntKind.i64.wrap (IntKind.u8.wrap (Int.tdiv b 32)) = b / 32 := by rw [tdiv_nn hb.1, wu8 (by omega), wi64 (by omega)]
  have e30 : Int.tmod (b / 32) 3 = b / 32 % 3 := tmod_nn (by omega)
  have e31 : Int.tmod d 17 = d % 17 := tmod_nn hd.1
  have e32 : IntKind.i64.wrap (IntKind.i64.wrap (d / 3 % 4 + d % 17) + 1) = d / 3 % 4 + d % 17 + 1 := by rw [wi64 (n := d / 3 % 4 + d % 17) (by omega), wi64 (by omega)]
  have e33 : IntKind.i64.wrap (IntKind.u8.wrap (Int.tdiv d 9)) = d / 9 := by rw [tdiv_nn hd.1, wu8 (by omega), wi64 (by omega)]
  have e34 : Int.tmod (d / 9) 4 = d / 9 % 4 := tmod_nn (by omega)
  have e35 : IntKind.i64.wrap (d / 9 % 4 + 1) = d / 9 % 4 + 1 := wi64 (by omega)
  have e36 : IntKind.i64.wrap (IntKind.u8.wrap (Int.tdiv d 36)) = d / 36 := by rw [tdiv_nn hd.1, wu8 (by omega), wi64 (by omega)]
  have e37 : Int.tmod (d / 36) 2 = d / 36 % 2 := tmod_nn (by omega)
  have e38 : IntKind.i64.wrap (d / 36 % 2 + 1) = d / 36 % 2 + 1 := wi64 (by omega)
  have e39 : Int.tmod d 5 = d % 5 := tmod_nn hd.1
  have e40 : Int.tmod c (a % 25 + 1) = c % (a % 25 + 1) := tmod_nn hc.1
  have hm : 0 ≤ c % (a % 25 + 1) ∧ c % (a % 25 + 1) < a % 25 + 1 := ⟨Int.emod_nonneg _ (by omega), Int.emod_lt_of_pos _ (by omega)⟩
  have e41 : IntKind.i64.wrap (b % 3 + c % (a % 25 + 1)) = b % 3 + c % (a % 25 + 1) := wi64 (by omega)
  have e42 : IntKind.i64.wrap (b % 3 + 1) = b % 3 + 1 := wi64 (by omega)
  have e43 : Int.tmod c 2 = c % 2 := tmod_nn hc.1
  have e44 : IntKind.i64.wrap (c % 2 + 1) = c % 2 + 1 := wi64 (by omega)
  have e45 : IntKind.i64.wrap (d % 3 + 1) = d % 3 + 1 := wi64 (by omega)
  have e46 : Int.tmod a 4 = a % 4 := tmod_nn ha.1
  have h0 : (a % 25 + 1 == 0) = false := by simp; omega
  have g1 : ∀ (x : Int) (n : Int), (0 ≤ x % n ∧ x % n < n) = (0 ≤ x % n ∧ x % n < n) := fun _ _ => rfl
  have c1 : (0 ≤ a % 6 ∧ a % 6 < 6) = True := by simp; omega
  have c2 : (0 ≤ c % 4 ∧ c % 4 < 4) = True := by simp; omega
  have c3 : (0 ≤ c / 4 % 3 ∧ c / 4 % 3 < 3) = True := by simp; omega
  have c4 : (0 ≤ c / 12 % 2 ∧ c / 12 % 2 < 2) = True := by simp; omega
  have c5 : (0 ≤ c / 24 % 2 ∧ c / 24 % 2 < 2) = True := by simp; omega
  have c6 : (0 ≤ c / 48 % 2 ∧ c / 48 % 2 < 2) = True := by simp; omega
  have c7 : (0 ≤ d % 3 ∧ d % 3 < 3) = True := by simp; omega
  have z : ∀ n : Nat, 0 + n * 1 = n := fun n => by omega
  have t1 : ((c % 4).toNat < 4) = True := by simp; omega
  have t2 : ((c / 4 % 3).toNat < 3) = True := by simp; omega
  have t3 : ((c / 12 % 2).toNat < 2) = True := by simp; omega
  have t4 : ((c / 24 % 2).toNat < 2) = True := by simp; omega
  have t5 : ((c / 48 % 2).toNat < 2) = True := by simp; omega
  have t6 : ((d % 3).toNat < 3) = True := by simp; omega
  unfold F_9e
  simp only [e0, e1, e2, e3, e4, e5, e6, e7, e8, e9, e10, e11, e12, e13, e14, e15, e16, e17, e18, e19, e20, e21, e22, e23, e24, e25, e26, e27, e28, e29, e30, e31, e32, e33, e34, e35, e36, e37, e38, e39, e40, e41, e42, e43, e44, e45, e46, h0, c1, c2, c3, c4, c5, c6, c7, z, t1, t2, t3, t4, t5, t6, decide_true, cond_true, cond_false, bif_beq]
  unfold cfg wlist
  have : a % 6 = 0 ∨ a % 6 = 1 ∨ a % 6 = 2 ∨ a % 6 = 3 ∨ a % 6 = 4 ∨ a % 6 = 5 := by omega
  rcases this with h | h | h | h | h | h <;> simp [h]
end Go.Proofs.YtkmkhcmfpbffjaaGreat.VI

namespace Go.Proofs.YtkmkhcmfpbffjaaGreat.VI
set_option linter.unusedVariables false
set_option linter.unusedSimpArgs false
set_option maxRecDepth 100000
set_option maxHeartbeats 4000000
abbrev PaT : Type := TsT × TsT × Unit
def dT : TsT := (0, 0, 0, [], ())
def dP : PaT := (dT, dT, ())
def tkN (t : TsT) : TsT := (t.1, (t.2.1, (t.2.2.1, ((List.take (List.length t.2.2.2.1) t.2.2.2.1), ()))))
theorem tkN_id (t : TsT) : tkN t = t := by unfold tkN; rw [List.take_length]
def tkP (p : PaT) : PaT := (tkN p.1, tkN p.2.1, ())
theorem tkP_id (p : PaT) : tkP p = p := by unfold tkP; rw [tkN_id, tkN_id]
def putR (b : Bool) (t u : TsT) : TsT := ((bif b then t.1 else u.1), ((bif b then t.2.1 else u.2.1), ((bif b then t.2.2.1 else u.2.2.1), ((List.take (bif b then (List.length t.2.2.2.1) else (List.length u.2.2.2.1)) (bif b then t.2.2.2.1 else u.2.2.2.1)), ()))))
theorem putR_eq (b : Bool) (t u : TsT) : putR b t u = bif b then t else u := by
  cases b
  · exact tkN_id u
  · exact tkN_id t
theorem rowsOf_id {α : Type} (l : List α) (d : α) : rowsOf l.length (fun j => l.getD j d) = l := by
  apply List.ext_getElem
  · simp [rowsOf]
  · intro k h1 h2
    simp [rowsOf, List.getD, h2]
def rowsT (l : List TsT) : List TsT := rowsOf l.length (fun j => tkN (l.getD j dT))
theorem rowsT_id (l : List TsT) : rowsT l = l := by
  unfold rowsT
  simp only [tkN_id]
  exact rowsOf_id l dT
def rowsP (l : List PaT) : List PaT := rowsOf l.length (fun j => tkP (l.getD j dP))
theorem rowsP_id (l : List PaT) : rowsP l = l := by
  unfold rowsP
  simp only [tkP_id]
  exact rowsOf_id l dP
def addR (n : Nat) (t : TsT) (W : List TsT) : List TsT := rowsOf (n + 1) (fun j => putR (Nat.beq j (n + 0)) t (W.getD j dT))
theorem addR_eq {n : Nat} (t : TsT) {W : List TsT} (h : W.length = n) : addR n t W = W ++ [t] := by
  unfold addR
  simp only [putR_eq]
  apply List.ext_getElem
  · simp [rowsOf, h]
  · intro k h1 h2
    have hk : k < n + 1 := by simpa [rowsOf] using h1
    simp only [rowsOf, List.getElem_map, List.getElem_range]
    by_cases e : k = n
    · subst e
      rw [show Nat.beq k (k + 0) = true from Nat.beq_refl _]
      rw [List.getElem_append_right (by omega)]
      simp [h]
    · have : Nat.beq k (n + 0) = false := by
        rw [Bool.eq_false_iff]; intro z; exact e (Nat.eq_of_beq_eq_true z)
      rw [this, List.getElem_append_left (by omega)]
      simp [List.getD, show k < W.length by omega]
def tkc (c : CfgT) : CfgT := (List.take (List.length c.1) c.1, c.2)
theorem tkc_id (c : CfgT) : tkc c = c := by unfold tkc; rw [List.take_length]
def cFmt (c : CfgT) : Int := c.2.1
def cChance (c : CfgT) : Bool := c.2.2.2.2.2.2.2.2.2.2.2.2.2.2.2.2.2.2.1
theorem lowSt (micro : Int) (n : Nat) (p : List PaT) (N i : Int) (c : CfgT) (W : List TsT) (R : Type) (kn : S_914_0 → Option R) (ko : E_914_0 → Option R) :
    st_914_0 R ((micro, (n, (p, (N, (i, ()))))), (c, (W, ()))) kn ko =
      bif (decide (i < N)) then
        bif (decide (((0:Int) ≤ i) ∧ (i < (((List.length p) : Nat) : Int)))) then
          (F_929 (tkN (p.getD (Int.toNat i) dP).1) (cFmt c)).bind fun r =>
          bif cChance c then none
          else
            bif (r.2.1 != (0:Int)) then ko (Sum.inr (r.2, ()))
            else
              bif (decide (n + 1 ≤ 1073741824)) then
                bif (((allR (List.length p) (fun _ => true)) && true) && ((allR (n + 1) (fun _ => true)) && true)) then
                  kn ((micro, (n + 1, (rowsP p, (N, (IntKind.wrap .i64 (i + 1), ()))))), (tkc c, (addR n r.1 W, ())))
                else none
              else none
        else none
      else
        bif ((allR (List.length W) (fun _ => true)) && true) then ko (Sum.inl ((n, ()), (rowsT W, ()))) else none := by kernel_rfl
def lowOne (c : CfgT) (w : TsT) : TsT := (castT w (cFmt c)).1
def okT1 (t : TsT) : Prop := rightS t = true ∧ wl t.2.2.2.1 ∧ t.2.2.2.1.length ≤ 1073741824
def lowL (c : CfgT) (p : List PaT) (n : Nat) : List TsT := (List.range n).map (fun (i : Nat) => lowOne c (p.getD i dP).1)
theorem low_loop (c : CfgT) (micro : Int) (p : List PaT) (hN : p.length ≤ 1000000) (hp : ∀ i, i < p.length → okT1 (p.getD i dP).1) (hk : knownS (cFmt c) = true) (hc : cChance c = false) :
    lim st_914_0 ((micro, ((0 : Nat), (p, ((p.length : Int), ((0 : Int), ()))))), (c, ([], ()))) = some (Sum.inl ((p.length, ()), (lowL c p p.length, ()))) :=
  lim_seq (st := st_914_0) (fun (i : Nat) => ((micro, (i, (p, ((p.length : Int), ((i : Int), ()))))), (c, (lowL c p i, ())))) p.length
    (fun i hi R kn ko => by
      obtain ⟨h1, h2, h3⟩ := hp i hi
      have hl : (lowL c p i).length = i := by simp [lowL]
      have hs : lowL c p (i + 1) = lowL c p i ++ [lowOne c (p.getD i dP).1] := by unfold lowL; rw [List.range_succ, List.map_append]; rfl
      show st_914_0 R ((micro, (i, (p, ((p.length : Int), ((i : Int), ()))))), (c, (lowL c p i, ()))) kn ko = kn ((micro, (i + 1, (p, ((p.length : Int), (((i + 1 : Nat) : Int), ()))))), (c, (lowL c p (i + 1), ())))
      rw [lowSt, hs]
      simp only [bif_dec, allR_true, Bool.and_true, cond_true, rowsP_id, tkc_id, tkN_id, Int.toNat_natCast]
      rw [if_pos (show (i : Int) < (p.length : Int) by omega), if_pos (show (0 : Int) ≤ (i : Int) ∧ (i : Int) < (p.length : Int) by omega), cast_eq _ _ h2 h3]
      simp only [Option.bind_some]
      unfold lowOne
      rw [show ((i + 1 : Nat) : Int) = (i : Int) + 1 by omega]
      have e : (castT (p.getD i dP).1 (cFmt c)).2.1 = 0 := by unfold castT; rw [if_pos h1, if_pos hk]
      simp only [hc, cond_false, e, bne_self_eq_false]
      rw [if_pos (show i + 1 ≤ 1073741824 by omega), addR_eq _ hl, wi64 (n := (i : Int) + 1) (by omega)])
    (fun R kn ko => by
      have hl : (lowL c p p.length).length = p.length := by simp [lowL]
      show st_914_0 R ((micro, (p.length, (p, ((p.length : Int), ((p.length : Int), ()))))), (c, (lowL c p p.length, ()))) kn ko = _
      rw [lowSt]
      simp only [bif_dec, allR_true, Bool.and_true, cond_true, rowsT_id]
      rw [if_neg (show ¬ (p.length : Int) < (p.length : Int) by omega)])
def shp1 (t : TsT) (r c f : Int) : Bool := decide (t.1 = r) && (decide (t.2.1 = c) && (decide (t.2.2.1 = f) && rightS t))
theorem shaped_eq (t : TsT) (r c f : Int) (h2 : wl t.2.2.2.1) (h3 : t.2.2.2.1.length ≤ 1073741824) : F_924 t r c f = some (shp1 t r c f) := by
  unfold F_924 shp1
  dsimp only
  rw [show ((t.1, (t.2.1, (t.2.2.1, ((List.take (List.length t.2.2.2.1) t.2.2.2.1), ())))) : TsT) = t from tkN_id t, right_eq t h2 (by omega)]
  simp only [bif_eq]
  by_cases a : t.1 = r
  · by_cases b : t.2.1 = c
    · by_cases d : t.2.2.1 = f
      · rw [if_pos a, if_pos b, if_pos d]; simp [a, b, d]
      · rw [if_pos a, if_pos b, if_neg d]; simp [a, b, d]
    · rw [if_pos a, if_neg b]; simp [a, b]
  · rw [if_neg a]; simp [a]
def repP (p : PaT) : List TsT := [tkN p.1, tkN p.2.1]
def tkL (l : List TsT) : List TsT := [tkN (l.getD 0 dT), tkN (l.getD 1 dT)]
theorem shapeSt (rows : List (List TsT)) (N i : Int) (c : CfgT) (R : Type) (kn : S_916_0 → Option R) (ko : E_916_0 → Option R) :
    st_916_0 R ((rows, (N, (i, ()))), (c, ())) kn ko =
      bif (decide (i < N)) then
        bif (decide (((0:Int) ≤ i) ∧ (i < (((List.length rows) : Nat) : Int)))) then
          bif (decide (((0:Int) ≤ i) ∧ (i < (((List.length c.1) : Nat) : Int)))) then
            bif (decide (((0:Int) ≤ (IntKind.wrap .i64 (i + 1))) ∧ ((IntKind.wrap .i64 (i + 1)) < (((List.length c.1) : Nat) : Int)))) then
              (F_924 (tkN ((rows.getD (Int.toNat i) []).getD 0 dT)) (c.1.getD (Int.toNat (IntKind.wrap .i64 (i + 1))) 0) (c.1.getD (Int.toNat i) 0) 2).bind fun a =>
              bif (!a) then ko (Sum.inr ((false, ()), ()))
              else
                (F_924 (tkN ((rows.getD (Int.toNat i) []).getD 1 dT)) 1 (c.1.getD (Int.toNat (IntKind.wrap .i64 (i + 1))) 0) 2).bind fun b =>
                bif (!b) then ko (Sum.inr ((false, ()), ()))
                else
                  bif (((allR (List.length rows) (fun _ => true)) && true) && true) then
                    kn ((rowsOf rows.length (fun j => tkL (rows.getD j [])), (N, (IntKind.wrap .i64 (i + 1), ()))), (tkc c, ()))
                  else none
            else none
          else none
        else none
      else ko (Sum.inl ((), ())) := by kernel_rfl
end Go.Proofs.YtkmkhcmfpbffjaaGreat.VI

namespace Go.Proofs.YtkmkhcmfpbffjaaGreat.VI
set_option linter.unusedVariables false
set_option linter.unusedSimpArgs false
set_option maxRecDepth 100000
set_option maxHeartbeats 4000000
theorem shapeF (c : CfgT) (p : List PaT) : F_916 c p =
    bif ((((List.length p) : Nat) : Int) != (IntKind.wrap .i64 ((((List.length (List.take (List.length c.1) c.1)) : Nat) : Int) - (1:Int)))) then some false
    else
      bif (((allR (List.length p) (fun _ => true)) && true) && true) then
        (lim st_916_0 ((rowsOf p.length (fun j => repP (p.getD j dP)), ((((List.length p) : Nat) : Int), ((0 : Int), ()))), (tkc c, ()))).bind fun r => els (fun _ => some true) (fun r5 => some r5.1.1) r
      else none := by kernel_rfl
def shpP (c : CfgT) (p : List PaT) (i : Nat) : Bool := shp1 (p.getD i dP).1 (c.1.getD (i + 1) 0) (c.1.getD i 0) 2 && shp1 (p.getD i dP).2.1 1 (c.1.getD (i + 1) 0) 2
def okP (x : PaT) : Prop := (wl x.1.2.2.2.1 ∧ x.1.2.2.2.1.length ≤ 1073741824) ∧ wl x.2.1.2.2.2.1 ∧ x.2.1.2.2.2.1.length ≤ 1073741824
theorem shape_ok (c : CfgT) (p : List PaT) (hN : p.length + 1 = c.1.length) (h1000 : c.1.length ≤ 1000) (hw : ∀ i, i < p.length → okP (p.getD i dP)) (hs : ∀ i, i < p.length → shpP c p i = true) : F_916 c p = some true := by
  rw [shapeF, List.take_length, wi64 (n := (c.1.length : Int) - 1) (by omega), show (c.1.length : Int) - 1 = ((p.length : Nat) : Int) by omega]
  simp only [bne_self_eq_false, cond_false, allR_true, Bool.and_true, cond_true, tkc_id]
  have rl : (rowsOf p.length (fun j => repP (p.getD j dP))).length = p.length := rowsOf_len _ _
  have rr : ∀ i, i < p.length → (rowsOf p.length (fun j => repP (p.getD j dP))).getD i [] = [(p.getD i dP).1, (p.getD i dP).2.1] := fun i hi => by
    rw [rowsOf_get hi]; unfold repP; rw [tkN_id, tkN_id]
  generalize rowsOf p.length (fun j => repP (p.getD j dP)) = rows at rl rr ⊢
  have rs : rowsOf rows.length (fun j => tkL (rows.getD j [])) = rows := by
    apply List.ext_getElem
    · simp [rowsOf]
    · intro k h1 h2
      have hk : k < p.length := by omega
      have := rr k hk
      simp only [rowsOf, List.getElem_map, List.getElem_range]
      rw [this]
      have e : rows.getD k [] = rows[k] := by simp [List.getD, h2]
      rw [← e, this]
      unfold tkL
      simp [tkN_id]
  rw [rl] at rs
  have key : lim st_916_0 ((rows, ((((List.length p) : Nat) : Int), ((0 : Int), ()))), (c, ())) = some (Sum.inl ((), ())) :=
    lim_seq (st := st_916_0) (fun (i : Nat) => ((rows, ((((List.length p) : Nat) : Int), ((i : Int), ()))), (c, ()))) p.length
      (fun i hi R kn ko => by
        show st_916_0 R ((rows, ((((List.length p) : Nat) : Int), ((i : Int), ()))), (c, ())) kn ko = kn ((rows, ((((List.length p) : Nat) : Int), (((i + 1 : Nat) : Int), ()))), (c, ()))
        have hs' := hs i hi
        unfold shpP at hs'
        simp only [Bool.and_eq_true] at hs'
        have hw' := hw i hi
        have ew : IntKind.i64.wrap ((i : Int) + 1) = (i : Int) + 1 := wi64 (by omega)
        have et : ((i : Int) + 1).toNat = i + 1 := by omega
        rw [shapeSt]
        simp only [Int.toNat_natCast, bif_dec, tkN_id, tkc_id, allR_true, Bool.and_true, cond_true, rs, rr i hi, rl, List.getD_cons_zero, List.getD_cons_succ, ew, et]
        rw [if_pos (show (i : Int) < (p.length : Int) by omega), if_pos (show (0 : Int) ≤ (i : Int) ∧ (i : Int) < (p.length : Int) by omega), if_pos (show (0 : Int) ≤ (i : Int) ∧ (i : Int) < (c.1.length : Int) by omega),
          if_pos (show (0 : Int) ≤ (i : Int) + 1 ∧ (i : Int) + 1 < (c.1.length : Int) by omega), shaped_eq _ _ _ _ hw'.1.1 hw'.1.2, shaped_eq _ _ _ _ hw'.2.1 hw'.2.2, hs'.1, hs'.2]
        simp only [Option.bind_some, Bool.not_true, cond_false]
        rw [show ((i + 1 : Nat) : Int) = (i : Int) + 1 by omega])
      (fun R kn ko => by
        show st_916_0 R ((rows, ((((List.length p) : Nat) : Int), ((p.length : Int), ()))), (c, ())) kn ko = _
        rw [shapeSt]
        simp only [bif_dec]
        rw [if_neg (show ¬ (p.length : Int) < (p.length : Int) by omega)])
  rw [key]
  rfl
theorem lowF (c : CfgT) (p : List PaT) (micro : Int) : F_914 c p micro =
    bif (((allR (List.length p) (fun _ => true)) && true) && true) then
      (F_916 (tkc c) (rowsP p)).bind fun r4 =>
      bif (!r4) then some ([], ((21:Int), ()))
      else
        bif (((allR (List.length p) (fun _ => true)) && true) && true) then
          (lim st_914_0 ((micro, ((0:Nat), (rowsP p, ((((List.length p) : Nat) : Int), ((0:Int), ()))))), (tkc c, ([], ())))).bind fun r5 =>
          els (fun l6 =>
            bif ((((allR l6.1.1 (fun _ => true)) && true) && true) && true) then
              some (rowsOf l6.1.1 (fun j => tkN (l6.2.1.getD j dT)), ((0:Int), ()))
            else none) (fun r7 => some ([], r7.1)) r5
        else none
    else none := by kernel_rfl
theorem low_ok (c : CfgT) (p : List PaT) (micro : Int) (hN : p.length + 1 = c.1.length) (h1000 : c.1.length ≤ 1000) (hw : ∀ i, i < p.length → okP (p.getD i dP)) (hs : ∀ i, i < p.length → shpP c p i = true) (hk : knownS (cFmt c) = true) (hc : cChance c = false) :
    F_914 c p micro = some (lowL c p p.length, 0, ()) := by
  rw [lowF]
  simp only [allR_true, Bool.and_true, cond_true, tkc_id, rowsP_id]
  rw [shape_ok c p hN h1000 hw hs]
  simp only [Option.bind_some, Bool.not_true, cond_false]
  have hp : ∀ i, i < p.length → okT1 (p.getD i dP).1 := fun i hi => by
    have h1 := hs i hi
    unfold shpP shp1 at h1
    simp only [Bool.and_eq_true] at h1
    exact ⟨h1.1.2.2.2, (hw i hi).1⟩
  rw [low_loop c micro p (by omega) hp hk hc]
  simp only [Option.bind_some, els, allR_true, Bool.and_true, cond_true, tkN_id]
  have : rowsOf p.length (fun j => (lowL c p p.length).getD j dT) = lowL c p p.length := by
    have h := rowsOf_id (lowL c p p.length) dT
    rw [show (lowL c p p.length).length = p.length by simp [lowL]] at h
    exact h
  rw [this]
end Go.Proofs.YtkmkhcmfpbffjaaGreat.VI

namespace Go.Proofs.YtkmkhcmfpbffjaaGreat.VI
set_option linter.unusedVariables false
set_option linter.unusedSimpArgs false
set_option maxRecDepth 100000
set_option maxHeartbeats 4000000
def addP (n : Nat) (t u : TsT) (W : List PaT) : List PaT := rowsOf (n + 1) (fun j => (putR (Nat.beq j (n + 0)) t (W.getD j dP).1, putR (Nat.beq j (n + 0)) u (W.getD j dP).2.1, ()))
theorem addP_eq {n : Nat} (t u : TsT) {W : List PaT} (h : W.length = n) : addP n t u W = W ++ [(t, u, ())] := by
  unfold addP
  simp only [putR_eq]
  apply List.ext_getElem
  · simp [rowsOf, h]
  · intro k h1 h2
    have hk : k < n + 1 := by simpa [rowsOf] using h1
    simp only [rowsOf, List.getElem_map, List.getElem_range]
    by_cases e : k = n
    · subst e
      rw [show Nat.beq k (k + 0) = true from Nat.beq_refl _]
      rw [List.getElem_append_right (by omega)]
      simp [h]
    · have : Nat.beq k (n + 0) = false := by
        rw [Bool.eq_false_iff]; intro z; exact e (Nat.eq_of_beq_eq_true z)
      rw [this, List.getElem_append_left (by omega)]
      simp [List.getD, show k < W.length by omega]
theorem par1St (w l : List Int) (m : Bool) (n : Nat) (i : Int) (k : Nat) (j : Int) (P : List PaT) (L : List Int) (R : Type) (kn : S_9f_1 → Option R) (ko : E_9f_1 → Option R) :
    st_9f_1 R ((w, (l, (m, (n, (i, (k, (j, ()))))))), (P, (L, ()))) kn ko =
      bif (decide (j < ((l.length : Nat) : Int))) then
        bif (decide (((0:Int) ≤ j) ∧ (j < ((l.length : Nat) : Int)))) then
          bif (decide ((k + 1) ≤ 1073741824)) then
            bif ((allR P.length (fun _ => true)) && true) then
              kn (((w.take w.length), ((l.take l.length), (m, (n, (i, (k + 1, (IntKind.wrap .i64 (j + 1), ()))))))), (rowsP P, (L.take k ++ [IntKind.wrap .u32 (l.getD (Int.toNat j) 0 + IntKind.wrap .u32 (IntKind.wrap .u32 i * 77))], ())))
            else none
          else none
        else none
      else
        bif ((allR P.length (fun _ => true)) && true) then
          ko (((w.take w.length), ((l.take l.length), (m, (n, (i, (k, ())))))), (rowsP P, (L, ())))
        else none := by kernel_rfl
theorem par0St (w l : List Int) (m : Bool) (n : Nat) (i : Int) (P : List PaT) (R : Type) (kn : S_9f_0 → Option R) (ko : E_9f_0 → Option R) :
    st_9f_0 R ((w, (l, (m, (n, (i, ()))))), (P, ())) kn ko =
      bif (decide ((IntKind.wrap .i64 (i + 1)) < ((w.length : Nat) : Int))) then
        bif ((allR P.length (fun _ => true)) && true) then
          (lim st_9f_1 ((w.take w.length, (l.take l.length, (m, (n, (i, ((0 : Nat), ((0 : Int), ()))))))), (rowsP P, ([], ())))).bind fun r =>
          bif (decide (((0:Int) ≤ (IntKind.wrap .i64 (r.1.2.2.2.2.1 + 1))) ∧ ((IntKind.wrap .i64 (r.1.2.2.2.2.1 + 1)) < ((r.1.1.length : Nat) : Int)))) then
            bif (decide (((0:Int) ≤ r.1.2.2.2.2.1) ∧ (r.1.2.2.2.2.1 < ((r.1.1.length : Nat) : Int)))) then
              (F_911 (r.1.1.getD (Int.toNat (IntKind.wrap .i64 (r.1.2.2.2.2.1 + 1))) 0) (r.1.1.getD (Int.toNat r.1.2.2.2.2.1) 0) 2 ((r.2.2.1.drop 0).take r.1.2.2.2.2.2.1) r.1.2.2.1).bind fun t =>
              bif (decide (((0:Int) ≤ (IntKind.wrap .i64 (r.1.2.2.2.2.1 + 1))) ∧ ((IntKind.wrap .i64 (r.1.2.2.2.2.1 + 1)) < ((r.1.1.length : Nat) : Int)))) then
                (F_911 1 (r.1.1.getD (Int.toNat (IntKind.wrap .i64 (r.1.2.2.2.2.1 + 1))) 0) 2 ((r.2.2.1.drop 0).take r.1.2.2.2.2.2.1) r.1.2.2.1).bind fun u =>
                bif (decide (r.1.2.2.2.1 + 1 ≤ 1073741824)) then
                  bif ((allR (r.1.2.2.2.1 + 1) (fun _ => true)) && true) then
                    kn ((r.1.1.take r.1.1.length, (r.1.2.1.take r.1.2.1.length, (r.1.2.2.1, (r.1.2.2.2.1 + 1, (IntKind.wrap .i64 (r.1.2.2.2.2.1 + 1), ()))))), (addP r.1.2.2.2.1 t u r.2.1, ()))
                  else none
                else none
              else none
            else none
          else none
        else none
      else
        bif ((allR P.length (fun _ => true)) && true) then ko ((n, ()), (rowsP P, ())) else none := by kernel_rfl
theorem parF (w l : List Int) (m : Bool) : F_9f w l m =
    (lim st_9f_0 ((w.take w.length, (l.take l.length, (m, ((0 : Nat), ((0 : Int), ()))))), ([], ()))).bind fun r =>
    bif ((allR r.1.1 (fun _ => true)) && true) then some (rowsOf r.1.1 (fun j => tkP (r.2.1.getD j dP))) else none := by kernel_rfl
noncomputable def sT (r c f : Int) (l : List Int) (m : Bool) : TsT := (F_911 r c f l m).getD dT
theorem sT_ok (R C : Nat) (f : Int) (l : List Int) (m : Bool) (hR : R ≤ 4096) (hC : C ≤ 4096) (hl : l.length < 4611686018427387904) :
    F_911 (R : Int) (C : Int) f l m = some (sT R C f l m) ∧ ∃ V, sT R C f l m = ((R : Int), (C : Int), f, V, ()) ∧ V.length = R * C ∧ (∀ v ∈ V, wf f v) ∧ (m = true → ∀ v ∈ V, mildP f v) := by
  obtain ⟨V, h1, h2⟩ := seatT R C f l m hR hC hl
  have e : sT R C f l m = ((R : Int), (C : Int), f, V, ()) := by unfold sT; rw [h1]; rfl
  exact ⟨by rw [e]; exact h1, V, e, h2⟩
def parR (l : List Int) (i : Int) (n : Nat) : List Int := (List.range n).map (fun k => IntKind.wrap .u32 (l.getD k 0 + IntKind.wrap .u32 (IntKind.wrap .u32 i * 77)))
theorem par1_loop (w l : List Int) (m : Bool) (n : Nat) (i : Int) (P : List PaT) (hl : l.length ≤ 1000000) :
    lim st_9f_1 ((w, (l, (m, (n, (i, ((0 : Nat), ((0 : Int), ()))))))), (P, ([], ()))) = some ((w, (l, (m, (n, (i, (l.length, ())))))), (P, (parR l i l.length, ()))) :=
  lim_seq (st := st_9f_1) (fun (k : Nat) => ((w, (l, (m, (n, (i, (k, ((k : Int), ()))))))), (P, (parR l i k, ())))) l.length
    (fun k hk R kn ko => by
      show st_9f_1 R ((w, (l, (m, (n, (i, (k, ((k : Int), ()))))))), (P, (parR l i k, ()))) kn ko = kn ((w, (l, (m, (n, (i, (k + 1, (((k + 1 : Nat) : Int), ()))))))), (P, (parR l i (k + 1), ())))
      have hp : (parR l i k).length = k := by simp [parR]
      have hs : parR l i (k + 1) = parR l i k ++ [IntKind.wrap .u32 (l.getD k 0 + IntKind.wrap .u32 (IntKind.wrap .u32 i * 77))] := by unfold parR; rw [List.range_succ, List.map_append]; rfl
      rw [par1St, hs]
      simp only [bif_dec, allR_true, Bool.and_true, cond_true, rowsP_id, List.take_length, Int.toNat_natCast]
      rw [if_pos (show (k : Int) < (l.length : Int) by omega), if_pos (show (0 : Int) ≤ (k : Int) ∧ (k : Int) < (l.length : Int) by omega), if_pos (show k + 1 ≤ 1073741824 by omega), wi64 (n := (k : Int) + 1) (by omega), List.take_of_length_le (by omega), show ((k + 1 : Nat) : Int) = (k : Int) + 1 by omega])
    (fun R kn ko => by
      show st_9f_1 R ((w, (l, (m, (n, (i, (l.length, ((l.length : Int), ()))))))), (P, (parR l i l.length, ()))) kn ko = _
      rw [par1St]
      simp only [bif_dec, allR_true, Bool.and_true, cond_true, rowsP_id, List.take_length]
      rw [if_neg (show ¬ (l.length : Int) < (l.length : Int) by omega)])
noncomputable def parO (w : List Int) (l : List Int) (m : Bool) (i : Nat) : PaT := (sT (w.getD (i + 1) 0) (w.getD i 0) 2 (parR l i l.length) m, sT 1 (w.getD (i + 1) 0) 2 (parR l i l.length) m, ())
noncomputable def parL (w : List Int) (l : List Int) (m : Bool) (n : Nat) : List PaT := (List.range n).map (parO w l m)
theorem params_eq (w l : List Int) (m : Bool) (hl : l.length ≤ 1000000) (hw0 : 0 < w.length) (hw1 : w.length ≤ 1000) (hw : ∀ i, i < w.length → 0 ≤ w.getD i 0 ∧ w.getD i 0 ≤ 4096) :
    F_9f w l m = some (parL w l m (w.length - 1)) := by
  have key : lim st_9f_0 ((w, (l, (m, ((0 : Nat), ((0 : Int), ()))))), ([], ())) = some ((w.length - 1, ()), (parL w l m (w.length - 1), ())) :=
    lim_seq (st := st_9f_0) (fun (i : Nat) => ((w, (l, (m, (i, ((i : Int), ()))))), (parL w l m i, ()))) (w.length - 1)
      (fun i hi R kn ko => by
        show st_9f_0 R ((w, (l, (m, (i, ((i : Int), ()))))), (parL w l m i, ())) kn ko = kn ((w, (l, (m, (i + 1, (((i + 1 : Nat) : Int), ()))))), (parL w l m (i + 1), ()))
        have hp : (parL w l m i).length = i := by simp [parL]
        have hs : parL w l m (i + 1) = parL w l m i ++ [parO w l m i] := by unfold parL; rw [List.range_succ, List.map_append]; rfl
        have ew : IntKind.i64.wrap ((i : Int) + 1) = (i : Int) + 1 := wi64 (by omega)
        have et : ((i : Int) + 1).toNat = i + 1 := by omega
        have hr : (parR l i l.length).length = l.length := by simp [parR]
        obtain ⟨a, ha⟩ : ∃ a : Nat, w.getD (i + 1) 0 = a := ⟨(w.getD (i + 1) 0).toNat, by have := (hw (i + 1) (by omega)).1; omega⟩
        obtain ⟨b, hb⟩ : ∃ b : Nat, w.getD i 0 = b := ⟨(w.getD i 0).toNat, by have := (hw i (by omega)).1; omega⟩
        have a1 := (hw (i + 1) (by omega)).2
        have b1 := (hw i (by omega)).2
        rw [par0St, hs]
        simp only [bif_dec, allR_true, Bool.and_true, cond_true, rowsP_id, List.take_length, ew]
        rw [if_pos (show (i : Int) + 1 < (w.length : Int) by omega), par1_loop w l m i (i : Int) _ hl]
        simp only [Option.bind_some, ew, et, Int.toNat_natCast, List.drop_zero, List.take_length]
        rw [if_pos (show (0 : Int) ≤ (i : Int) + 1 ∧ (i : Int) + 1 < (w.length : Int) by omega), if_pos (show (0 : Int) ≤ (i : Int) ∧ (i : Int) < (w.length : Int) by omega), List.take_of_length_le (show (parR l (i : Int) l.length).length ≤ l.length by omega)]
        unfold parO
        rw [ha, hb, (sT_ok a b 2 (parR l i l.length) m (by omega) (by omega) (by omega)).1]
        simp only [Option.bind_some]
        rw [if_pos (show (0 : Int) ≤ (i : Int) + 1 ∧ (i : Int) + 1 < (w.length : Int) by omega), show F_911 1 (a : Int) 2 (parR l i l.length) m = _ from (sT_ok 1 a 2 (parR l i l.length) m (by omega) (by omega) (by omega)).1]
        simp only [Option.bind_some]
        rw [if_pos (show i + 1 ≤ 1073741824 by omega), addP_eq _ _ hp, show ((i + 1 : Nat) : Int) = (i : Int) + 1 by omega]
        rfl)
      (fun R kn ko => by
        show st_9f_0 R ((w, (l, (m, (w.length - 1, (((w.length - 1 : Nat) : Int), ()))))), (parL w l m (w.length - 1), ())) kn ko = _
        rw [par0St]
        simp only [bif_dec, allR_true, Bool.and_true, cond_true, rowsP_id]
        rw [wi64 (n := ((w.length - 1 : Nat) : Int) + 1) (by omega), if_neg (show ¬ ((w.length - 1 : Nat) : Int) + 1 < (w.length : Int) by omega)])
  rw [parF]
  simp only [List.take_length]
  rw [key]
  simp only [Option.bind_some, allR_true, Bool.and_true, cond_true, tkP_id]
  have h := rowsOf_id (parL w l m (w.length - 1)) dP
  rw [show (parL w l m (w.length - 1)).length = w.length - 1 by simp [parL]] at h
  rw [h]
end Go.Proofs.YtkmkhcmfpbffjaaGreat.VI

namespace Go.Proofs.YtkmkhcmfpbffjaaGreat.VI
set_option linter.unusedVariables false
set_option linter.unusedSimpArgs false
set_option maxRecDepth 100000
set_option maxHeartbeats 4000000
abbrev U3 : Type := Int × Int × Int × Unit
def tl {α : Type} (ok : Bool) (d : Bool) (good : Option α) : Option α := bif d then (bif ok then good else none) else none
theorem fwdSt (p : List PaT) (w : List TsT) (micro N i : Int) (c : CfgT) (x : TsT) (U : U3) (nX nZ nK : Nat) (X Z K : List TsT) (R : Type) (kn : S_912_0 → Option R) (ko : E_912_0 → Option R) :
    st_912_0 R ((p, (w, (micro, (N, (i, ()))))), (c, (x, (U, ((), ((nX, (nZ, (nK, ()))), (X, (Z, (K, ()))))))))) kn ko =
      bif (decide (i < N)) then
        bif (decide (((0:Int) ≤ i) ∧ (i < ((w.length : Nat) : Int)))) then
          bif (decide (((0:Int) ≤ i) ∧ (i < ((p.length : Nat) : Int)))) then
            (F_926 (tkc c) (tkN x) (tkN (w.getD (Int.toNat i) dT)) (tkN (p.getD (Int.toNat i) dP).2.1)).bind fun r =>
            bif (decide (nX + 1 ≤ 1073741824)) then
              bif (decide (nZ + 1 ≤ 1073741824)) then
                bif (r.2.1 == (0:Int)) then
                  bif (decide (i < (IntKind.wrap .i64 (((p.length : Nat) : Int) - 1)))) then
                    (F_927 (tkc c) (tkN r.1) micro i).bind fun h =>
                    bif (h.2.2.1 != (0:Int)) then ko (Sum.inr (h.2.2, (((0:Int), ((0:Int), ((0:Int), ()))), ((), ()))))
                    else
                      tl (((allR p.length (fun _ => true)) && ((allR w.length (fun _ => true)) && true)) && ((allR (nX + 1) (fun _ => true)) && ((allR (nZ + 1) (fun _ => true)) && ((allR (nK + 1) (fun _ => true)) && true)))) (decide (nK + 1 ≤ 1073741824))
                        (kn ((rowsP p, (rowsT w, (micro, (N, (IntKind.wrap .i64 (i + 1), ()))))), (tkc c, (tkN h.1, (U, ((), ((nX + 1, (nZ + 1, (nK + 1, ()))), (addR nX x X, (addR nZ r.1 Z, (addR nK h.2.1 K, ()))))))))))
                  else
                    bif (r.2.1 != (0:Int)) then ko (Sum.inr (r.2, (((0:Int), ((0:Int), ((0:Int), ()))), ((), ()))))
                    else
                      tl (((allR p.length (fun _ => true)) && ((allR w.length (fun _ => true)) && true)) && ((allR (nX + 1) (fun _ => true)) && ((allR (nZ + 1) (fun _ => true)) && ((allR (nK + 1) (fun _ => true)) && true)))) (decide (nK + 1 ≤ 1073741824))
                        (kn ((rowsP p, (rowsT w, (micro, (N, (IntKind.wrap .i64 (i + 1), ()))))), (tkc c, (tkN x, (U, ((), ((nX + 1, (nZ + 1, (nK + 1, ()))), (addR nX x X, (addR nZ r.1 Z, (addR nK dT K, ()))))))))))
                else
                  bif (r.2.1 != (0:Int)) then ko (Sum.inr (r.2, (((0:Int), ((0:Int), ((0:Int), ()))), ((), ()))))
                  else
                    tl (((allR p.length (fun _ => true)) && ((allR w.length (fun _ => true)) && true)) && ((allR (nX + 1) (fun _ => true)) && ((allR (nZ + 1) (fun _ => true)) && ((allR (nK + 1) (fun _ => true)) && true)))) (decide (nK + 1 ≤ 1073741824))
                      (kn ((rowsP p, (rowsT w, (micro, (N, (IntKind.wrap .i64 (i + 1), ()))))), (tkc c, (tkN x, (U, ((), ((nX + 1, (nZ + 1, (nK + 1, ()))), (addR nX x X, (addR nZ r.1 Z, (addR nK dT K, ()))))))))))
              else none
            else none
          else none
        else none
      else
        bif (((allR p.length (fun _ => true)) && true) && ((allR X.length (fun _ => true)) && ((allR Z.length (fun _ => true)) && ((allR K.length (fun _ => true)) && true)))) then
          ko (Sum.inl ((rowsP p, ()), (U, ((), ((nX, (nZ, (nK, ()))), (rowsT X, (rowsT Z, (rowsT K, ()))))))))
        else none := by kernel_rfl
end Go.Proofs.YtkmkhcmfpbffjaaGreat.VI

namespace Go.Proofs.YtkmkhcmfpbffjaaGreat.VI
set_option linter.unusedVariables false
set_option linter.unusedSimpArgs false
set_option maxRecDepth 100000
set_option maxHeartbeats 8000000
def qb (q : Bool) (D j x : Nat) : Nat := if q then j * D + x else x * D + j
end Go.Proofs.YtkmkhcmfpbffjaaGreat.VI

namespace Go.Proofs.YtkmkhcmfpbffjaaGreat.VI
set_option linter.unusedVariables false
set_option linter.unusedSimpArgs false
set_option maxRecDepth 100000
set_option maxHeartbeats 4000000
theorem linearF (c : CfgT) (x w b : TsT) : F_926 c x w b =
    (F_94e (tkN x) (tkN w)).bind fun r =>
    bif (r.2.1 != (0:Int)) then some (dT, r.2)
    else
      (F_94f (tkN r.1) (tkN b)).bind fun s =>
      (F_950 (tkc c) (tkN s.1) s.2.1).bind fun t => some (tkN t.1, t.2) := by kernel_rfl
theorem castF (c : CfgT) (x : TsT) (e : Int) : F_950 c x e = bif (e != (0:Int)) then some (dT, (e, ())) else (F_929 (tkN x) (cFmt c)).bind fun r => some (tkN r.1, r.2) := by kernel_rfl
def rowsL (x w : TsT) (R C J : Nat) : List Int := prodL (wideL x) (wideL w) C J (R * J)
def biasL (x w b : TsT) (R C J : Nat) : List Int := (List.range (R * J)).map (fun i => addf (gl (wideL ((R : Int), (J : Int), 2, rowsL x w R C J, ())) i) (gl (wideL b) (i % J)))
def linL (f : Int) (x w b : TsT) (R C J : Nat) : List Int := castL ((R : Int), (J : Int), 2, biasL x w b R C J, ()) f
theorem biasL_wl (x w b : TsT) (R C J : Nat) : wl (biasL x w b R C J) := range_wl fun i => addf_w _ _
theorem biasL_len (x w b : TsT) (R C J : Nat) : (biasL x w b R C J).length = R * J := by simp [biasL]
theorem castL_len (t : TsT) (f : Int) : (castL t f).length = t.2.2.2.1.length := by simp [castL]
theorem castL_wf (t : TsT) (f : Int) : ∀ v ∈ castL t f, wf f v := by
  intro v hv
  obtain ⟨i, _, rfl⟩ := List.mem_map.1 hv
  exact to_wf _ _ _ _
theorem linL_len (f : Int) (x w b : TsT) (R C J : Nat) : (linL f x w b R C J).length = R * J := by unfold linL; rw [castL_len]; exact biasL_len _ _ _ _ _ _
theorem rc16 {R J : Nat} (hR : R ≤ 4096) (hJ : J ≤ 4096) : R * J ≤ 16777216 := Nat.mul_le_mul hR hJ
theorem linear_ok (c : CfgT) {R C J : Nat} {f g h : Int} {A B D : List Int} (hk : knownS (cFmt c) = true) (hA : wl A) (hB : wl B) (hD : wl D)
    (rx : rightS ((R : Int), (C : Int), f, A, ()) = true) (rw' : rightS ((J : Int), (C : Int), g, B, ()) = true) (rb : rightS ((1 : Int), (J : Int), h, D, ()) = true) :
    F_926 c ((R : Int), (C : Int), f, A, ()) ((J : Int), (C : Int), g, B, ()) ((1 : Int), (J : Int), h, D, ()) =
      some (((R : Int), (J : Int), cFmt c, linL (cFmt c) ((R : Int), (C : Int), f, A, ()) ((J : Int), (C : Int), g, B, ()) ((1 : Int), (J : Int), h, D, ()) R C J, ()), 0, ()) := by
  obtain ⟨R', C', e1, e2, hR, hC, lA, _, _⟩ := right_nat rx
  obtain rfl : R = R' := by omega
  obtain rfl : C = C' := by omega
  obtain ⟨J', D', e3, e4, hJ, _, lB, _, _⟩ := right_nat rw'
  obtain rfl : J = J' := by omega
  rw [linearF]
  simp only [tkN_id, tkc_id]
  rw [rows_un, times_ok R C J C f g A B false false hA hB rx rw']
  simp only [Bool.false_eq_true, if_false, if_true, Option.bind_some, bne_self_eq_false, cond_false]
  have P : prodL (wideL ((R : Int), (C : Int), f, A, ())) (wideL ((J : Int), (C : Int), g, B, ())) C J (R * J) = rowsL ((R : Int), (C : Int), f, A, ()) ((J : Int), (C : Int), g, B, ()) R C J := rfl
  rw [P]
  have wP : wl (rowsL ((R : Int), (C : Int), f, A, ()) ((J : Int), (C : Int), g, B, ()) R C J) := prodL_wl _ _ _ _ _
  have lP : (rowsL ((R : Int), (C : Int), f, A, ()) ((J : Int), (C : Int), g, B, ()) R C J).length = R * J := prodL_len _ _ _ _ _
  have rP : rightS ((R : Int), (J : Int), 2, rowsL ((R : Int), (C : Int), f, A, ()) ((J : Int), (C : Int), g, B, ()) R C J, ()) = true := right_mk hR hJ lP (by decide) (fits2 wP)
  rw [show F_94f ((R : Int), (J : Int), 2, rowsL ((R : Int), (C : Int), f, A, ()) ((J : Int), (C : Int), g, B, ()) R C J, ()) ((1 : Int), (J : Int), h, D, ()) = _ from bias_ok R J 1 J 2 h _ D wP hD rP rb]
  simp only [and_self, if_true, Option.bind_some]
  rw [castF]
  simp only [tkN_id, bne_self_eq_false, cond_false]
  have hb16 := rc16 hR hJ
  have eB : (List.range (R * J)).map (fun i => addf (gl (wideL ((R : Int), (J : Int), 2, rowsL ((R : Int), (C : Int), f, A, ()) ((J : Int), (C : Int), g, B, ()) R C J, ())) i) (gl (wideL (((1 : Nat) : Int), (J : Int), h, D, ())) (i % J))) = biasL ((R : Int), (C : Int), f, A, ()) ((J : Int), (C : Int), g, B, ()) ((1 : Int), (J : Int), h, D, ()) R C J := rfl
  rw [eB]
  rw [cast_eq ((R : Int), (J : Int), 2, biasL ((R : Int), (C : Int), f, A, ()) ((J : Int), (C : Int), g, B, ()) ((1 : Int), (J : Int), h, D, ()) R C J, ()) (cFmt c) (biasL_wl _ _ _ _ _ _) (by show (biasL _ _ _ R C J).length ≤ _; rw [biasL_len]; omega)]
  have rB : rightS ((R : Int), (J : Int), 2, biasL ((R : Int), (C : Int), f, A, ()) ((J : Int), (C : Int), g, B, ()) ((1 : Int), (J : Int), h, D, ()) R C J, ()) = true := right_mk hR hJ (biasL_len _ _ _ _ _ _) (by decide) (fits2 (biasL_wl _ _ _ _ _ _))
  unfold castT
  rw [if_pos rB, if_pos hk]
  rfl
theorem lwSt (w : List TsT) (N i : Int) (c : CfgT) (R : Type) (kn : S_923_0 → Option R) (ko : E_923_0 → Option R) :
    st_923_0 R ((w, (N, (i, ()))), (c, ())) kn ko =
      bif (decide (i < N)) then
        bif (decide (((0:Int) ≤ i) ∧ (i < ((w.length : Nat) : Int)))) then
          bif (decide (((0:Int) ≤ (IntKind.wrap .i64 (i + 1))) ∧ ((IntKind.wrap .i64 (i + 1)) < ((c.1.length : Nat) : Int)))) then
            bif (decide (((0:Int) ≤ i) ∧ (i < ((c.1.length : Nat) : Int)))) then
              (F_924 (tkN (w.getD (Int.toNat i) dT)) (c.1.getD (Int.toNat (IntKind.wrap .i64 (i + 1))) 0) (c.1.getD (Int.toNat i) 0) (cFmt c)).bind fun a =>
              bif (!a) then ko (Sum.inr ((false, ()), ()))
              else bif (((allR w.length (fun _ => true)) && true) && true) then kn ((rowsT w, (N, (IntKind.wrap .i64 (i + 1), ()))), (tkc c, ())) else none
            else none
          else none
        else none
      else ko (Sum.inl ((), ())) := by kernel_rfl
theorem lwF (c : CfgT) (w : List TsT) : F_923 c w =
    bif (((w.length : Nat) : Int) != (IntKind.wrap .i64 ((((List.take c.1.length c.1).length : Nat) : Int) - 1))) then some false
    else
      bif (((allR w.length (fun _ => true)) && true) && true) then
        (lim st_923_0 ((rowsT w, (((w.length : Nat) : Int), ((0:Int), ()))), (tkc c, ()))).bind fun r => els (fun _ => some true) (fun r5 => some r5.1.1) r
      else none := by kernel_rfl
def okL (t : TsT) : Prop := wl t.2.2.2.1 ∧ t.2.2.2.1.length ≤ 1073741824
theorem lowered_ok (c : CfgT) (w : List TsT) (hN : w.length + 1 = c.1.length) (hc : c.1.length ≤ 1000) (hw : ∀ i, i < w.length → okL (w.getD i dT)) (hs : ∀ i, i < w.length → shp1 (w.getD i dT) (c.1.getD (i + 1) 0) (c.1.getD i 0) (cFmt c) = true) : F_923 c w = some true := by
  rw [lwF, List.take_length, wi64 (n := (c.1.length : Int) - 1) (by omega), show (c.1.length : Int) - 1 = ((w.length : Nat) : Int) by omega]
  simp only [bne_self_eq_false, cond_false, allR_true, Bool.and_true, cond_true, tkc_id, rowsT_id]
  have key : lim st_923_0 ((w, (((w.length : Nat) : Int), ((0 : Int), ()))), (c, ())) = some (Sum.inl ((), ())) :=
    lim_seq (st := st_923_0) (fun (i : Nat) => ((w, (((w.length : Nat) : Int), ((i : Int), ()))), (c, ()))) w.length
      (fun i hi R kn ko => by
        show st_923_0 R ((w, (((w.length : Nat) : Int), ((i : Int), ()))), (c, ())) kn ko = kn ((w, (((w.length : Nat) : Int), (((i + 1 : Nat) : Int), ()))), (c, ()))
        have ew : IntKind.i64.wrap ((i : Int) + 1) = (i : Int) + 1 := wi64 (by omega)
        have et : ((i : Int) + 1).toNat = i + 1 := by omega
        rw [lwSt]
        simp only [Int.toNat_natCast, bif_dec, tkN_id, tkc_id, allR_true, Bool.and_true, cond_true, rowsT_id, ew, et]
        rw [if_pos (show (i : Int) < (w.length : Int) by omega), if_pos (show (0 : Int) ≤ (i : Int) ∧ (i : Int) < (w.length : Int) by omega), if_pos (show (0 : Int) ≤ (i : Int) + 1 ∧ (i : Int) + 1 < (c.1.length : Int) by omega), if_pos (show (0 : Int) ≤ (i : Int) ∧ (i : Int) < (c.1.length : Int) by omega),
          shaped_eq _ _ _ _ (hw i hi).1 (hw i hi).2, hs i hi]
        simp only [Option.bind_some, Bool.not_true, cond_false]
        rw [show ((i + 1 : Nat) : Int) = (i : Int) + 1 by omega])
      (fun R kn ko => by
        show st_923_0 R ((w, (((w.length : Nat) : Int), ((w.length : Int), ()))), (c, ())) kn ko = _
        rw [lwSt]
        simp only [bif_dec]
        rw [if_neg (show ¬ (w.length : Int) < (w.length : Int) by omega)])
  rw [key]
  rfl
theorem fewF (c : CfgT) (r : Int) : F_925 c r = (lim st_925_0 ((r, (List.take c.1.length c.1, (((c.1.length : Nat) : Int), ((0:Int), ())))), ())).bind fun r0 => els (fun _ => some true) (fun r2 => some r2.1.1) r0 := by kernel_rfl
theorem few_ok (c : CfgT) (r : Int) (hc : c.1.length ≤ 1000) (hs : ∀ i, i < c.1.length → 0 ≤ r * c.1.getD i 0 ∧ r * c.1.getD i 0 ≤ 262144) : F_925 c r = some true := by
  rw [fewF, List.take_length]
  have key : lim st_925_0 ((r, (c.1, (((c.1.length : Nat) : Int), ((0:Int), ())))), ()) = some (Sum.inl ((), ())) :=
    lim_seq (st := st_925_0) (fun (i : Nat) => ((r, (c.1, (((c.1.length : Nat) : Int), ((i : Int), ())))), ())) c.1.length
      (fun i hi R kn ko => by
        have h := hs i hi
        unfold st_925_0
        dsimp only
        simp only [List.take_length, bif_dec, Int.toNat_natCast]
        rw [if_pos (show (i : Int) < (c.1.length : Int) by omega), if_pos (show (0 : Int) ≤ (i : Int) ∧ (i : Int) < (c.1.length : Int) by omega), if_neg (show ¬ (IntKind.wrap .i64 (r * c.1.getD i 0) > 262144) by rw [wi64 (n := r * c.1.getD i 0) (by omega)]; omega), wi64 (n := (i : Int) + 1) (by omega), show ((i + 1 : Nat) : Int) = (i : Int) + 1 by omega])
      (fun R kn ko => by
        unfold st_925_0
        dsimp only
        simp only [bif_dec]
        rw [if_neg (show ¬ (c.1.length : Int) < (c.1.length : Int) by omega)])
  rw [key]
  rfl
end Go.Proofs.YtkmkhcmfpbffjaaGreat.VI

namespace Go.Proofs.YtkmkhcmfpbffjaaGreat.VI
set_option linter.unusedVariables false
set_option linter.unusedSimpArgs false
set_option maxRecDepth 100000
set_option maxHeartbeats 4000000
abbrev TrT : Type := List TsT × List TsT × List TsT × Unit
def noTr : TrT := ([], ([], ([], ())))
theorem fwdF (c : CfgT) (p : List PaT) (w : List TsT) (x : TsT) (micro : Int) : F_912 c p w x micro =
    bif (((allR p.length (fun _ => true)) && true) && true) then
      (F_916 (tkc c) (rowsP p)).bind fun r10 =>
      bif (!r10) then some (dT, (noTr, ((21:Int), ())))
      else
        bif (((allR w.length (fun _ => true)) && true) && true) then
          (F_923 (tkc c) (rowsT w)).bind fun r11 =>
          bif (!r11) then some (dT, (noTr, ((21:Int), ())))
          else
            bif (decide (((0:Int) ≤ (0:Int)) ∧ ((0:Int) < ((c.1.length : Nat) : Int)))) then
              (F_924 (tkN x) x.1 (c.1.getD 0 0) (cFmt c)).bind fun r12 =>
              bif (!r12) then some (dT, (noTr, ((21:Int), ())))
              else
                (F_925 (tkc c) x.1).bind fun r13 =>
                bif (!r13) then some (dT, (noTr, ((21:Int), ())))
                else
                  bif (((allR p.length (fun _ => true)) && ((allR w.length (fun _ => true)) && true)) && true) then
                    (lim st_912_0 ((rowsP p, (rowsT w, (micro, (((p.length : Nat) : Int), ((0:Int), ()))))), (tkc c, (tkN x, (((0:Int), ((0:Int), ((0:Int), ()))), ((), (((0:Nat), ((0:Nat), ((0:Nat), ()))), ([], ([], ([], ())))))))))).bind fun r =>
                    els (fun l =>
                      bif (decide (((0:Int) ≤ (IntKind.wrap .i64 (((l.1.1.length : Nat) : Int) - 1))) ∧ ((IntKind.wrap .i64 (((l.1.1.length : Nat) : Int) - 1)) < ((l.2.2.2.1.2.1 : Nat) : Int)))) then
                        bif (decide (0 + Int.toNat (IntKind.wrap .i64 (((l.1.1.length : Nat) : Int) - 1)) < l.2.2.2.2.2.1.length)) then
                          (F_928 (tkN (l.2.2.2.2.2.1.getD (0 + Int.toNat (IntKind.wrap .i64 (((l.1.1.length : Nat) : Int) - 1))) dT))).bind fun z =>
                          bif ((((((allR l.2.2.2.1.1 (fun _ => true)) && ((allR l.2.2.2.1.2.1 (fun _ => true)) && ((allR l.2.2.2.1.2.2.1 (fun _ => true)) && true))) && true) && true) && true) && true) then
                            some (tkN z, ((rowsOf l.2.2.2.1.1 (fun j => tkN (l.2.2.2.2.1.getD j dT)), (rowsOf l.2.2.2.1.2.1 (fun j => tkN (l.2.2.2.2.2.1.getD j dT)), (rowsOf l.2.2.2.1.2.2.1 (fun j => tkN (l.2.2.2.2.2.2.1.getD j dT)), ()))), ((0:Int), ())))
                          else none
                        else none
                      else none) (fun e => some ((e.2.1.1, (e.2.1.2.1, (e.2.1.2.2.1, ([], ())))), (noTr, e.1))) r
                  else none
            else none
        else none
    else none := by kernel_rfl
end Go.Proofs.YtkmkhcmfpbffjaaGreat.VI

namespace Go.Proofs.YtkmkhcmfpbffjaaGreat.VI
set_option linter.unusedVariables false
set_option linter.unusedSimpArgs false
set_option maxRecDepth 100000
set_option maxHeartbeats 4000000
set_option linter.unusedSectionVars false
def cAct (c : CfgT) : Int := c.2.2.1
structure Fit (c : CfgT) (p : List PaT) (w : List TsT) (d : Nat → Nat) : Prop where
  n : 0 < p.length
  wn : w.length = p.length
  cn : c.1.length = p.length + 1
  c1000 : c.1.length ≤ 1000
  dim : ∀ i, i ≤ p.length → c.1.getD i 0 = (d i : Int)
  dle : ∀ i, d i ≤ 4096
  okp : ∀ i, i < p.length → okP (p.getD i dP)
  shp : ∀ i, i < p.length → shpP c p i = true
  okw : ∀ i, i < p.length → okL (w.getD i dT)
  shw : ∀ i, i < p.length → shp1 (w.getD i dT) (c.1.getD (i + 1) 0) (c.1.getD i 0) (cFmt c) = true
  fmt : knownS (cFmt c) = true
  act : 0 ≤ cAct c ∧ cAct c ≤ 3
section
variable (c : CfgT) (p : List PaT) (w : List TsT) (d : Nat → Nat) (R : Nat)
def stepL (i : Nat) (A : List Int) : List Int := linL (cFmt c) ((R : Int), (d i : Int), cFmt c, A, ()) (w.getD i dT) (p.getD i dP).2.1 R (d i) (d (i + 1))
def xl (A : List Int) : Nat → List Int
  | 0 => A
  | i + 1 => fwdL (cAct c) ((R : Int), (d (i + 1) : Int), cFmt c, stepL c p w d R i (xl A i), ())
def tX (A : List Int) (i : Nat) : TsT := ((R : Int), (d i : Int), cFmt c, xl c p w d R A i, ())
def tZ (A : List Int) (i : Nat) : TsT := ((R : Int), (d (i + 1) : Int), cFmt c, stepL c p w d R i (xl c p w d R A i), ())
end
section
variable {c : CfgT} {p : List PaT} {w : List TsT} {d : Nat → Nat} {R : Nat} {A : List Int} (h : Fit c p w d)
include h
theorem stepL_len (i : Nat) (B : List Int) : (stepL c p w d R i B).length = R * d (i + 1) := linL_len _ _ _ _ _ _ _
theorem stepL_wf (i : Nat) (B : List Int) : ∀ v ∈ stepL c p w d R i B, wf (cFmt c) v := castL_wf _ _
theorem tZ_right (hR : R ≤ 4096) (i : Nat) : rightS (tZ c p w d R A i) = true := wf_right hR (h.dle _) (stepL_len h i _) h.fmt (stepL_wf h i _)
theorem xl_wf (hA : ∀ v ∈ A, wf (cFmt c) v) : ∀ i, ∀ v ∈ xl c p w d R A i, wf (cFmt c) v
  | 0 => hA
  | i + 1 => by
    intro v hv
    obtain ⟨j, _, rfl⟩ := List.mem_map.1 hv
    exact to_wf _ _ _ _
theorem xl_len (hA : A.length = R * d 0) : ∀ i, (xl c p w d R A i).length = R * d i
  | 0 => hA
  | i + 1 => by
    show (fwdL _ _).length = _
    unfold fwdL
    rw [List.length_map, List.length_range]
    exact stepL_len h i _
theorem tX_right (hR : R ≤ 4096) (hA : A.length = R * d 0) (wA : ∀ v ∈ A, wf (cFmt c) v) (i : Nat) : rightS (tX c p w d R A i) = true := wf_right hR (h.dle _) (xl_len h hA i) h.fmt (xl_wf h wA i)
theorem lin_at (hR : R ≤ 4096) (hA : A.length = R * d 0) (wA : ∀ v ∈ A, wf (cFmt c) v) {i : Nat} (hi : i < p.length) :
    F_926 c (tX c p w d R A i) (w.getD i dT) (p.getD i dP).2.1 = some (tZ c p w d R A i, 0, ()) := by
  have s1 := h.shw i hi
  have s2 := h.shp i hi
  unfold shpP at s2
  unfold shp1 at s1 s2
  simp only [Bool.and_eq_true, decide_eq_true_eq] at s1 s2
  rw [h.dim (i + 1) (by omega), h.dim i (by omega)] at s1
  rw [h.dim (i + 1) (by omega)] at s2
  have ew : w.getD i dT = (((d (i + 1) : Nat) : Int), ((d i : Nat) : Int), cFmt c, (w.getD i dT).2.2.2.1, ()) := by
    rw [← s1.1, ← s1.2.1, ← s1.2.2.1]
  have eb : (p.getD i dP).2.1 = ((1 : Int), ((d (i + 1) : Nat) : Int), 2, (p.getD i dP).2.1.2.2.2.1, ()) := by
    have a1 := s2.2.1; have a2 := s2.2.2.1; have a3 := s2.2.2.2.1
    rw [← a2]
    show (p.getD i dP).2.1 = (1, _, 2, _, ())
    rw [← a1, ← a3]
  have r1 := s1.2.2.2
  have r2 := s2.2.2.2.2
  unfold tZ stepL tX
  rw [ew, eb]
  rw [ew] at r1
  rw [eb] at r2
  exact linear_ok c h.fmt (wf_wl (xl_wf h wA i)) (h.okw i hi).1 (h.okp i hi).2.1 (tX_right h hR hA wA i) r1 r2
theorem hid_at {micro : Int} (hm : micro < 0) (hR : R ≤ 4096) (i : Int) (j : Nat) : F_927 c (tZ c p w d R A j) micro i = some (tX c p w d R A (j + 1), dT, 0, ()) := by
  have rz := tZ_right (A := A) h hR j
  have lz : (tZ c p w d R A j).2.2.2.1.length ≤ 1073741824 := by
    show (stepL c p w d R j _).length ≤ _
    rw [stepL_len h]
    have := rc16 hR (h.dle (j + 1)); omega
  have wz : wl (tZ c p w d R A j).2.2.2.1 := wf_wl (stepL_wf h j _)
  unfold F_927
  dsimp only
  rw [show (((tZ c p w d R A j).1, ((tZ c p w d R A j).2.1, ((tZ c p w d R A j).2.2.1, ((List.take (List.length (tZ c p w d R A j).2.2.2.1) (tZ c p w d R A j).2.2.2.1), ())))) : TsT) = tZ c p w d R A j from tkN_id _, fwd_all _ _ wz lz]
  unfold fwdT
  rw [rz, if_pos rfl, if_pos (show 0 ≤ c.2.2.1 ∧ c.2.2.1 ≤ 3 from h.act)]
  simp only [Option.bind_some, bne_self_eq_false, cond_false, bif_dec, List.take_length]
  rw [if_pos hm]
  rfl
end
theorem clone_ok (t : TsT) (hn : t.2.2.2.1.length ≤ 1073741824) : F_928 t = some t := by
  unfold F_928
  dsimp only
  simp only [List.take_length, Nat.zero_add, List.drop_zero, List.nil_append, bif_dec]
  rw [if_pos hn]
theorem rowsOf_map {n : Nat} (f : Nat → TsT) : rowsOf n (fun j => (((List.range n).map f).getD j dT)) = (List.range n).map f := by
  have e := rowsOf_id ((List.range n).map f) dT
  rw [List.length_map, List.length_range] at e
  exact e
theorem fwd_ok {c : CfgT} {p : List PaT} {w : List TsT} {d : Nat → Nat} {R : Nat} {A : List Int} (h : Fit c p w d) {micro : Int} (hm : p.length = 1 ∨ micro < 0) (hR : R ≤ 4096) (hA : A.length = R * d 0) (wA : ∀ v ∈ A, wf (cFmt c) v)
    (hfew : ∀ i, i < c.1.length → (R : Int) * c.1.getD i 0 ≤ 262144) :
    F_912 c p w (tX c p w d R A 0) micro = some (tZ c p w d R A (p.length - 1), ((List.range p.length).map (tX c p w d R A), ((List.range p.length).map (tZ c p w d R A), (List.replicate p.length dT, ()))), 0, ()) := by
  have h0 := h.n
  have h1 := h.c1000
  have h2 := h.cn
  have tl_ok : ∀ {α : Type} (g : Option α), tl true true g = g := fun g => rfl
  have Xl : ∀ i, ((List.range i).map (tX c p w d R A)).length = i := fun i => by simp
  have Zl : ∀ i, ((List.range i).map (tZ c p w d R A)).length = i := fun i => by simp
  have Kl : ∀ i, (List.replicate i dT).length = i := fun i => by simp
  have Xs : ∀ i, (List.range (i + 1)).map (tX c p w d R A) = (List.range i).map (tX c p w d R A) ++ [tX c p w d R A i] := fun i => by rw [List.range_succ, List.map_append]; rfl
  have Zs : ∀ i, (List.range (i + 1)).map (tZ c p w d R A) = (List.range i).map (tZ c p w d R A) ++ [tZ c p w d R A i] := fun i => by rw [List.range_succ, List.map_append]; rfl
  have Ks : ∀ i, List.replicate (i + 1) dT = List.replicate i dT ++ [dT] := fun i => by rw [List.replicate_succ']
  have key : lim st_912_0 ((p, (w, (micro, (((p.length : Nat) : Int), ((0:Int), ()))))), (c, (tX c p w d R A 0, (((0:Int), ((0:Int), ((0:Int), ()))), ((), (((0:Nat), ((0:Nat), ((0:Nat), ()))), ([], ([], ([], ())))))))))
      = some (Sum.inl ((p, ()), (((0:Int), ((0:Int), ((0:Int), ()))), ((), ((p.length, (p.length, (p.length, ()))), ((List.range p.length).map (tX c p w d R A), ((List.range p.length).map (tZ c p w d R A), (List.replicate p.length dT, ())))))))) :=
    lim_seq (st := st_912_0) (fun (i : Nat) => ((p, (w, (micro, (((p.length : Nat) : Int), ((i : Int), ()))))), (c, (tX c p w d R A (min i (p.length - 1)), (((0:Int), ((0:Int), ((0:Int), ()))), ((), ((i, (i, (i, ()))), ((List.range i).map (tX c p w d R A), ((List.range i).map (tZ c p w d R A), (List.replicate i dT, ())))))))))) p.length
      (fun i hi Q kn ko => by
        show st_912_0 Q ((p, (w, (micro, (((p.length : Nat) : Int), ((i : Int), ()))))), (c, (tX c p w d R A (min i (p.length - 1)), (((0:Int), ((0:Int), ((0:Int), ()))), ((), ((i, (i, (i, ()))), ((List.range i).map (tX c p w d R A), ((List.range i).map (tZ c p w d R A), (List.replicate i dT, ()))))))))) kn ko
          = kn ((p, (w, (micro, (((p.length : Nat) : Int), (((i + 1 : Nat) : Int), ()))))), (c, (tX c p w d R A (min (i + 1) (p.length - 1)), (((0:Int), ((0:Int), ((0:Int), ()))), ((), ((i + 1, (i + 1, (i + 1, ()))), ((List.range (i + 1)).map (tX c p w d R A), ((List.range (i + 1)).map (tZ c p w d R A), (List.replicate (i + 1) dT, ())))))))))
        rw [fwdSt, show min i (p.length - 1) = i by omega]
        simp only [bif_dec, allR_true, Bool.and_true, tkc_id, tkN_id, rowsP_id, rowsT_id, Int.toNat_natCast]
        rw [if_pos (show (i : Int) < ((p.length : Nat) : Int) by omega), if_pos (show (0 : Int) ≤ (i : Int) ∧ (i : Int) < ((w.length : Nat) : Int) by rw [h.wn]; omega), if_pos (show (0 : Int) ≤ (i : Int) ∧ (i : Int) < ((p.length : Nat) : Int) by omega), lin_at h hR hA wA hi]
        simp only [Option.bind_some, BEq.rfl, cond_true, bne_self_eq_false, cond_false]
        rw [if_pos (show i + 1 ≤ 1073741824 by omega), if_pos (show i + 1 ≤ 1073741824 by omega), wi64 (n := ((p.length : Nat) : Int) - 1) (by omega), addR_eq _ (Xl i), addR_eq _ (Zl i), addR_eq _ (Kl i), wi64 (n := (i : Int) + 1) (by omega), decide_eq_true (show i + 1 ≤ 1073741824 by omega), Xs, Zs, Ks, show ((i + 1 : Nat) : Int) = (i : Int) + 1 by omega]
        by_cases hl : (i : Int) < ((p.length : Nat) : Int) - 1
        · have hm' : micro < 0 := hm.resolve_left (by omega)
          rw [if_pos hl, hid_at h hm' hR (i : Int) i]
          simp only [Option.bind_some, bne_self_eq_false, cond_false]
          rw [addR_eq _ (Kl i), show min (i + 1) (p.length - 1) = i + 1 by omega]
          exact tl_ok _
        · rw [if_neg hl, show min (i + 1) (p.length - 1) = i by omega]
          exact tl_ok _)
      (fun Q kn ko => by
        show st_912_0 Q ((p, (w, (micro, (((p.length : Nat) : Int), ((p.length : Int), ()))))), (c, (tX c p w d R A (min p.length (p.length - 1)), (((0:Int), ((0:Int), ((0:Int), ()))), ((), ((p.length, (p.length, (p.length, ()))), ((List.range p.length).map (tX c p w d R A), ((List.range p.length).map (tZ c p w d R A), (List.replicate p.length dT, ()))))))))) kn ko = _
        rw [fwdSt]
        simp only [bif_dec, allR_true, Bool.and_true, cond_true, rowsP_id, rowsT_id]
        rw [if_neg (show ¬ (p.length : Int) < ((p.length : Nat) : Int) by omega)])
  have rx := tX_right h hR hA wA 0
  have lx : (tX c p w d R A 0).2.2.2.1.length ≤ 1073741824 := by
    show A.length ≤ _
    have := rc16 hR (h.dle 0); omega
  have hs : F_924 (tX c p w d R A 0) (tX c p w d R A 0).1 (c.1.getD 0 0) (cFmt c) = some true := by
    rw [shaped_eq _ _ _ _ (wf_wl wA) lx]
    unfold shp1
    rw [rx, h.dim 0 (by omega)]
    simp [tX]
  have hf : F_925 c (tX c p w d R A 0).1 = some true := few_ok c _ h1 fun i hi => by
    refine ⟨?_, hfew i hi⟩
    rw [h.dim i (by omega)]
    exact Int.mul_nonneg (Int.natCast_nonneg _) (Int.natCast_nonneg _)
  rw [fwdF]
  simp only [allR_true, Bool.and_true, cond_true, tkc_id, tkN_id, rowsP_id, rowsT_id]
  rw [shape_ok c p (by omega) h1 h.okp h.shp]
  simp only [Option.bind_some, Bool.not_true, cond_false]
  rw [lowered_ok c w (by rw [h.wn]; omega) h1 (fun i hi => h.okw i (by rw [← h.wn]; exact hi)) (fun i hi => h.shw i (by rw [← h.wn]; exact hi))]
  simp only [Option.bind_some, Bool.not_true, cond_false, bif_dec]
  rw [if_pos (show (0 : Int) ≤ 0 ∧ (0 : Int) < ((c.1.length : Nat) : Int) by omega), hs]
  simp only [Option.bind_some, Bool.not_true, cond_false]
  rw [hf]
  simp only [Option.bind_some, Bool.not_true, cond_false]
  rw [key]
  simp only [Option.bind_some, els]
  rw [wi64 (n := ((p.length : Nat) : Int) - 1) (by omega), if_pos (show (0 : Int) ≤ ((p.length : Nat) : Int) - 1 ∧ ((p.length : Nat) : Int) - 1 < ((p.length : Nat) : Int) by omega), Zl, show 0 + (((p.length : Nat) : Int) - 1).toNat = p.length - 1 by omega, if_pos (show p.length - 1 < p.length by omega)]
  have ez : ((List.range p.length).map (tZ c p w d R A)).getD (p.length - 1) dT = tZ c p w d R A (p.length - 1) := by
    simp [List.getD, show p.length - 1 < p.length by omega]
  rw [ez, clone_ok _ (by
    show (stepL c p w d R _ _).length ≤ _
    rw [stepL_len h]
    have := rc16 hR (h.dle (p.length - 1 + 1)); omega)]
  simp only [Option.bind_some]
  rw [rowsOf_map, rowsOf_map]
  have ek : rowsOf p.length (fun j => (List.replicate p.length dT).getD j dT) = List.replicate p.length dT := by
    have e := rowsOf_id (List.replicate p.length dT) dT
    rw [List.length_replicate] at e
    exact e
  rw [ek]
end Go.Proofs.YtkmkhcmfpbffjaaGreat.VI

namespace Go.Proofs.YtkmkhcmfpbffjaaGreat.VI
set_option linter.unusedVariables false
set_option linter.unusedSimpArgs false
set_option maxRecDepth 100000
set_option maxHeartbeats 4000000
def c17 : CfgT := ([(1:Int), (1:Int)], ((0:Int), ((0:Int), ((0:Int), ((0:Int), ((0:Int), ((981668463:Int), ((0:Int), ((1065336439:Int), ((841731191:Int), ((0:Int), ((1065353216:Int), ((0:Int), ((2:Int), ((1:Int), ((1:Int), ((1:Int), ((0:Int), (false, ((3:Int), ((0:Int), ((4:Int), ((1:Int), ((2:Int), ((2:Int), ((0:Int), ()))))))))))))))))))))))))))
def p17 : List PaT := [(((1:Int), ((1:Int), ((2:Int), ([(1073741824:Int)], ())))), (((1:Int), ((1:Int), ((2:Int), ([(1065353216:Int)], ())))), ()))]
def w17 : List TsT := [((1:Int), ((1:Int), ((0:Int), ([(16384:Int)], ()))))]
theorem known17F : F_9d =
    (F_914 c17 p17 0).bind fun r1 =>
    bif (((allR r1.1.length (fun _ => true)) && true) && true) then
      (F_912 c17 p17 (rowsT r1.1) ((1:Int), ((1:Int), ((0:Int), ([(16896:Int)], ())))) 0).bind fun r4 =>
      bif (r1.2.1 == (0:Int)) then
        bif (r4.2.2.1 == (0:Int)) then
          bif (((r4.1.2.2.2.1.length : Nat) : Int) == (1:Int)) then
            bif (decide (((0:Int) ≤ (0:Int)) ∧ ((0:Int) < ((r4.1.2.2.2.1.length : Nat) : Int)))) then
              bif (r4.1.2.2.2.1.getD 0 0 == (18176:Int)) then
                bif (((r4.2.1.1.length : Nat) : Int) == (1:Int)) then
                  (F_916 c17 p17).bind fun r8 => bif r8 then some true else some false
                else some false
              else some false
            else none
          else some false
        else some false
      else some false
    else none := by kernel_rfl
theorem one_of {P : Nat → Prop} (h : P 0) (i : Nat) (hi : i < 1) : P i := by
  have e : i = 0 := by omega
  subst e
  exact h
theorem lit_wl {l : List Int} (h : (l.all fun v => decide (0 ≤ v) && decide (v < 4294967296)) = true) : wl l := fun v hv => by
  have := List.all_eq_true.1 h v hv
  simp only [Bool.and_eq_true, decide_eq_true_eq] at this
  exact ⟨this.1, this.2⟩
theorem fit17 : Fit c17 p17 w17 (fun _ => 1) where
  n := by decide
  wn := rfl
  cn := rfl
  c1000 := by decide
  dim := fun i hi => by
    have : i = 0 ∨ i = 1 := by have : p17.length = 1 := rfl; omega
    rcases this with rfl | rfl <;> rfl
  dle := fun _ => by omega
  okp := one_of ⟨⟨lit_wl (by decide), by decide⟩, lit_wl (by decide), by decide⟩
  shp := one_of (by decide +kernel)
  okw := one_of ⟨lit_wl (by decide), by decide⟩
  shw := one_of (by decide +kernel)
  fmt := by decide
  act := by decide
theorem known17 : F_9d = some true := by
  rw [known17F, low_ok c17 p17 0 rfl (by decide) fit17.okp fit17.shp (by decide) rfl]
  have e : lowL c17 p17 p17.length = w17 := by decide +kernel
  rw [e]
  simp only [Option.bind_some, allR_true, Bool.and_true, cond_true, rowsT_id]
  have f := fwd_ok (c := c17) (p := p17) (w := w17) (d := fun _ => 1) (R := 1) (A := [16896]) fit17 (micro := 0) (.inl rfl) (by decide) rfl (fun v hv => by
    rw [List.mem_singleton] at hv; subst hv; exact ⟨by decide, by decide⟩) (fun i hi => by
    have : i = 0 ∨ i = 1 := by have : c17.1.length = 2 := rfl; omega
    rcases this with rfl | rfl <;> decide)
  rw [show F_912 c17 p17 w17 ((1:Int), ((1:Int), ((0:Int), ([(16896:Int)], ())))) 0 = _ from f]
  simp only [Option.bind_some]
  have s : stepL c17 p17 w17 (fun _ => 1) 1 0 [16896] = [18176] := by decide +kernel
  show (bif ((0 : Int) == 0) then bif ((0 : Int) == 0) then bif (((stepL c17 p17 w17 (fun _ => 1) 1 0 [16896]).length : Int) == 1) then bif (decide (((0:Int) ≤ (0:Int)) ∧ ((0:Int) < (((stepL c17 p17 w17 (fun _ => 1) 1 0 [16896]).length : Nat) : Int)))) then bif ((stepL c17 p17 w17 (fun _ => 1) 1 0 [16896]).getD 0 0 == (18176:Int)) then _ else _ else _ else _ else _ else _) = _
  rw [s, shape_ok c17 p17 rfl (by decide) fit17.okp fit17.shp]
  rfl
end Go.Proofs.YtkmkhcmfpbffjaaGreat.VI

namespace Go.Proofs.YtkmkhcmfpbffjaaGreat.VI
set_option linter.unusedVariables false
set_option linter.unusedSimpArgs false
set_option maxRecDepth 100000
set_option maxHeartbeats 4000000
theorem shapedr_eq (t : TsT) (r c f : Int) (h2 : wl t.2.2.2.1) (h3 : t.2.2.2.1.length ≤ 1073741824) : F_931 t r c f = some (shp1 t r c f) := by
  unfold F_931 shp1
  dsimp only
  rw [show ((t.1, (t.2.1, (t.2.2.1, ((List.take (List.length t.2.2.2.1) t.2.2.2.1), ())))) : TsT) = t from tkN_id t, rightr_eq t h2 (by omega)]
  simp only [Option.bind_some]
  cases rightS t
  · simp
  · by_cases a : t.1 = r
    · by_cases b : t.2.1 = c
      · by_cases d : t.2.2.1 = f
        · simp [a, b, d]
        · simp [a, b, d]
      · simp [a, show (t.2.1 == c) = false from beq_eq_false_iff_ne.2 b, b]
    · simp [show (t.1 == r) = false from beq_eq_false_iff_ne.2 a, a]
theorem shapeRSt (p : List PaT) (i : Int) (c : CfgT) (R : Type) (kn : S_917_0 → Option R) (ko : E_917_0 → Option R) :
    st_917_0 R ((p, (i, ())), (c, ())) kn ko =
      bif (decide (i < (((List.length p) : Nat) : Int))) then
        bif (decide (((0:Int) ≤ i) ∧ (i < (((List.length p) : Nat) : Int)))) then
          bif (decide (((0:Int) ≤ (IntKind.wrap .i64 (i + 1))) ∧ ((IntKind.wrap .i64 (i + 1)) < (((List.length c.1) : Nat) : Int)))) then
            bif (decide (((0:Int) ≤ i) ∧ (i < (((List.length c.1) : Nat) : Int)))) then
              (F_931 (tkN (p.getD (Int.toNat i) dP).1) (c.1.getD (Int.toNat (IntKind.wrap .i64 (i + 1))) 0) (c.1.getD (Int.toNat i) 0) 2).bind fun a =>
              bif (!a) then ko (Sum.inr ((false, ()), ()))
              else
                bif (decide (((0:Int) ≤ i) ∧ (i < (((List.length p) : Nat) : Int)))) then
                  bif (decide (((0:Int) ≤ (IntKind.wrap .i64 (i + 1))) ∧ ((IntKind.wrap .i64 (i + 1)) < (((List.length c.1) : Nat) : Int)))) then
                    (F_931 (tkN (p.getD (Int.toNat i) dP).2.1) 1 (c.1.getD (Int.toNat (IntKind.wrap .i64 (i + 1))) 0) 2).bind fun b =>
                    bif (!b) then ko (Sum.inr ((false, ()), ()))
                    else
                      bif (((allR (List.length p) (fun _ => true)) && true) && true) then
                        kn ((rowsP p, (IntKind.wrap .i64 (i + 1), ())), (tkc c, ()))
                      else none
                  else none
                else none
            else none
          else none
        else none
      else ko (Sum.inl ((), ())) := by kernel_rfl
theorem shapeRF (c : CfgT) (p : List PaT) : F_917 c p =
    bif ((((List.length p) : Nat) : Int) != (IntKind.wrap .i64 ((((List.length (List.take (List.length c.1) c.1)) : Nat) : Int) - (1:Int)))) then some false
    else
      bif (((allR (List.length p) (fun _ => true)) && true) && true) then
        (lim st_917_0 ((rowsP p, ((0 : Int), ())), (tkc c, ()))).bind fun r => els (fun _ => some true) (fun r5 => some r5.1.1) r
      else none := by kernel_rfl
theorem shapeR_ok (c : CfgT) (p : List PaT) (hN : p.length + 1 = c.1.length) (hc : c.1.length ≤ 1000) (hw : ∀ i, i < p.length → okP (p.getD i dP)) (hs : ∀ i, i < p.length → shpP c p i = true) : F_917 c p = some true := by
  rw [shapeRF, List.take_length, wi64 (n := (c.1.length : Int) - 1) (by omega), show (c.1.length : Int) - 1 = ((p.length : Nat) : Int) by omega]
  simp only [bne_self_eq_false, cond_false, allR_true, Bool.and_true, cond_true, tkc_id, rowsP_id]
  have key : lim st_917_0 ((p, ((0 : Int), ())), (c, ())) = some (Sum.inl ((), ())) :=
    lim_seq (st := st_917_0) (fun (i : Nat) => ((p, ((i : Int), ())), (c, ()))) p.length
      (fun i hi R kn ko => by
        show st_917_0 R ((p, ((i : Int), ())), (c, ())) kn ko = kn ((p, (((i + 1 : Nat) : Int), ())), (c, ()))
        have hs' := hs i hi
        unfold shpP at hs'
        simp only [Bool.and_eq_true] at hs'
        have hw' := hw i hi
        have ew : IntKind.i64.wrap ((i : Int) + 1) = (i : Int) + 1 := wi64 (by omega)
        have et : ((i : Int) + 1).toNat = i + 1 := by omega
        rw [shapeRSt]
        simp only [Int.toNat_natCast, bif_dec, tkN_id, tkc_id, allR_true, Bool.and_true, cond_true, rowsP_id, ew, et]
        rw [if_pos (show (i : Int) < (p.length : Int) by omega), if_pos (show (0 : Int) ≤ (i : Int) ∧ (i : Int) < (p.length : Int) by omega),
          if_pos (show (0 : Int) ≤ (i : Int) + 1 ∧ (i : Int) + 1 < (c.1.length : Int) by omega), if_pos (show (0 : Int) ≤ (i : Int) ∧ (i : Int) < (c.1.length : Int) by omega), shapedr_eq _ _ _ _ hw'.1.1 hw'.1.2, shapedr_eq _ _ _ _ hw'.2.1 hw'.2.2, hs'.1, hs'.2]
        simp only [Option.bind_some, Bool.not_true, cond_false]
        rw [if_pos (show (0 : Int) ≤ (i : Int) ∧ (i : Int) < (p.length : Int) by omega), if_pos (show (0 : Int) ≤ (i : Int) + 1 ∧ (i : Int) + 1 < (c.1.length : Int) by omega), show ((i + 1 : Nat) : Int) = (i : Int) + 1 by omega])
      (fun R kn ko => by
        show st_917_0 R ((p, ((p.length : Int), ())), (c, ())) kn ko = _
        rw [shapeRSt]
        simp only [bif_dec]
        rw [if_neg (show ¬ (p.length : Int) < (p.length : Int) by omega)])
  rw [key]
  rfl
theorem lowRSt (micro : Int) (n : Nat) (p : List PaT) (i : Int) (c : CfgT) (W : List TsT) (R : Type) (kn : S_910_0 → Option R) (ko : E_910_0 → Option R) :
    st_910_0 R ((p, (micro, (n, (i, ())))), (c, (W, ()))) kn ko =
      bif (decide (i < (((List.length p) : Nat) : Int))) then
        bif (decide (((0:Int) ≤ i) ∧ (i < (((List.length p) : Nat) : Int)))) then
          (F_921 (tkN (p.getD (Int.toNat i) dP).1) (cFmt c)).bind fun r =>
          bif cChance c then bif (decide (((0:Int) ≤ i) ∧ (i < (((List.length p) : Nat) : Int)))) then none else none
          else
            bif (decide (n + 1 ≤ 1073741824)) then
              bif (((allR (List.length p) (fun _ => true)) && true) && ((allR (n + 1) (fun _ => true)) && true)) then
                kn ((rowsP p, (micro, (n + 1, (IntKind.wrap .i64 (i + 1), ())))), (tkc c, (addR n r.1 W, ())))
              else none
            else none
        else none
      else
        bif ((allR (List.length W) (fun _ => true)) && true) then ko ((n, ()), (rowsT W, ())) else none := by kernel_rfl
theorem lowRF (c : CfgT) (p : List PaT) (micro : Int) : F_910 c p micro =
    bif (((allR (List.length p) (fun _ => true)) && true) && true) then
      (F_917 (tkc c) (rowsP p)).bind fun r4 =>
      bif (!r4) then some ([], ((21:Int), ()))
      else
        bif (((allR (List.length p) (fun _ => true)) && true) && true) then
          (lim st_910_0 ((rowsP p, (micro, ((0:Nat), ((0:Int), ())))), (tkc c, ([], ())))).bind fun l6 =>
          bif ((((allR l6.1.1 (fun _ => true)) && true) && true) && true) then
            some (rowsOf l6.1.1 (fun j => tkN (l6.2.1.getD j dT)), ((0:Int), ()))
          else none
        else none
    else none := by kernel_rfl
theorem lowR_ok (c : CfgT) (p : List PaT) (micro : Int) (hN : p.length + 1 = c.1.length) (h1000 : c.1.length ≤ 1000) (hw : ∀ i, i < p.length → okP (p.getD i dP)) (hs : ∀ i, i < p.length → shpP c p i = true) (hk : knownS (cFmt c) = true) (hc : cChance c = false) :
    F_910 c p micro = some (lowL c p p.length, 0, ()) := by
  rw [lowRF]
  simp only [allR_true, Bool.and_true, cond_true, tkc_id, rowsP_id]
  rw [shapeR_ok c p hN h1000 hw hs]
  simp only [Option.bind_some, Bool.not_true, cond_false]
  have hp : ∀ i, i < p.length → okT1 (p.getD i dP).1 := fun i hi => by
    have h1 := hs i hi
    unfold shpP shp1 at h1
    simp only [Bool.and_eq_true] at h1
    exact ⟨h1.1.2.2.2, (hw i hi).1⟩
  have key : lim st_910_0 ((p, (micro, ((0:Nat), ((0:Int), ())))), (c, ([], ()))) = some ((p.length, ()), (lowL c p p.length, ())) :=
    lim_seq (st := st_910_0) (fun (i : Nat) => ((p, (micro, (i, ((i : Int), ())))), (c, (lowL c p i, ())))) p.length
      (fun i hi R kn ko => by
        obtain ⟨h1, h2, h3⟩ := hp i hi
        have hl : (lowL c p i).length = i := by simp [lowL]
        have hs : lowL c p (i + 1) = lowL c p i ++ [lowOne c (p.getD i dP).1] := by unfold lowL; rw [List.range_succ, List.map_append]; rfl
        show st_910_0 R ((p, (micro, (i, ((i : Int), ())))), (c, (lowL c p i, ()))) kn ko = kn ((p, (micro, (i + 1, (((i + 1 : Nat) : Int), ())))), (c, (lowL c p (i + 1), ())))
        rw [lowRSt, hs]
        simp only [bif_dec, allR_true, Bool.and_true, cond_true, rowsP_id, tkc_id, tkN_id, Int.toNat_natCast]
        rw [if_pos (show (i : Int) < (p.length : Int) by omega), if_pos (show (0 : Int) ≤ (i : Int) ∧ (i : Int) < (p.length : Int) by omega), castr_eq _ _ h2 h3]
        simp only [Option.bind_some]
        unfold lowOne
        simp only [hc, cond_false]
        rw [if_pos (show i + 1 ≤ 1073741824 by omega), addR_eq _ hl, wi64 (n := (i : Int) + 1) (by omega), show ((i + 1 : Nat) : Int) = (i : Int) + 1 by omega])
      (fun R kn ko => by
        have hl : (lowL c p p.length).length = p.length := by simp [lowL]
        show st_910_0 R ((p, (micro, (p.length, ((p.length : Int), ())))), (c, (lowL c p p.length, ()))) kn ko = _
        rw [lowRSt]
        simp only [bif_dec, allR_true, Bool.and_true, cond_true, rowsT_id]
        rw [if_neg (show ¬ (p.length : Int) < (p.length : Int) by omega)])
  rw [key]
  simp only [Option.bind_some, allR_true, Bool.and_true, cond_true, tkN_id]
  have : rowsOf p.length (fun j => (lowL c p p.length).getD j dT) = lowL c p p.length := by
    have h := rowsOf_id (lowL c p p.length) dT
    rw [show (lowL c p p.length).length = p.length by simp [lowL]] at h
    exact h
  rw [this]
end Go.Proofs.YtkmkhcmfpbffjaaGreat.VI

namespace Go.Proofs.YtkmkhcmfpbffjaaGreat.VI
set_option linter.unusedVariables false
set_option linter.unusedSimpArgs false
set_option maxRecDepth 100000
set_option maxHeartbeats 4000000
def rwL (d : Nat) (L : List Int) (r : Nat) : List Int := (L.drop (r * d)).take d
theorem row_fit {R r d : Nat} (hr : r < R) : r * d + d ≤ R * d := by
  have h : (r + 1) * d ≤ R * d := Nat.mul_le_mul_right d hr
  rw [Nat.succ_mul] at h
  exact h
theorem rwL_len {d R r : Nat} {L : List Int} (hL : L.length = R * d) (hr : r < R) : (rwL d L r).length = d := by
  have := row_fit (d := d) hr
  unfold rwL
  rw [List.length_take, List.length_drop]; omega
theorem rwL_get {d r j : Nat} {L : List Int} (hj : j < d) : (rwL d L r).getD j 0 = L.getD (r * d + j) 0 := by
  unfold rwL
  simp [List.getD, List.getElem?_take, hj, List.getElem?_drop]
theorem rwL_map {d R r : Nat} (h : Nat → Int) (hr : r < R) : rwL d ((List.range (R * d)).map h) r = (List.range d).map (fun j => h (r * d + j)) := by
  have := row_fit (d := d) hr
  apply List.ext_getElem
  · rw [rwL_len (R := R) (by simp) hr]; simp
  · intro k h1 h2
    have hk : k < d := by simpa using h2
    simp [rwL]
theorem row_div {r j d : Nat} (hj : j < d) : (r * d + j) / d = r := by
  rw [Nat.mul_comm, Nat.mul_add_div (by omega), Nat.div_eq_of_lt hj]; omega
theorem row_mod {r j d : Nat} (hj : j < d) : (r * d + j) % d = j := by
  rw [Nat.mul_comm, Nat.mul_add_mod, Nat.mod_eq_of_lt hj]
theorem linL_row (f g : Int) (A : List Int) (w b : TsT) {R r C J : Nat} (hA : A.length = R * C) (hr : r < R) :
    rwL J (linL f ((R : Int), (C : Int), g, A, ()) w b R C J) r = linL f ((1 : Int), (C : Int), g, rwL C A r, ()) w b 1 C J := by
  have hb := row_fit (d := J) hr
  have hc := row_fit (d := C) hr
  unfold linL castL
  simp only [biasL_len]
  rw [rwL_map _ hr, Nat.one_mul]
  apply List.map_congr_left
  intro j hj
  have hj : j < J := List.mem_range.1 hj
  congr 2
  unfold biasL
  have e1 : ∀ h : Nat → Int, ((List.range (R * J)).map h).getD (r * J + j) 0 = h (r * J + j) := fun h => gl_mapA (by omega)
  have e2 : ∀ h : Nat → Int, ((List.range (1 * J)).map h).getD j 0 = h j := fun h => gl_mapA (by omega)
  rw [e1, e2, row_mod hj, Nat.mod_eq_of_lt hj]
  congr 1
  rw [wideL_get _ (by show _ < (rowsL _ _ _ _ _).length; unfold rowsL; rw [prodL_len]; omega), wideL_get _ (by show _ < (rowsL _ _ _ _ _).length; unfold rowsL; rw [prodL_len]; omega)]
  show widen 2 _ = widen 2 _
  congr 1
  show (rowsL _ _ _ _ _).getD _ 0 = (rowsL _ _ _ _ _).getD _ 0
  unfold rowsL prodL
  rw [e1, e2]
  unfold prodH
  rw [row_div hj, row_mod hj, Nat.div_eq_of_lt hj, Nat.mod_eq_of_lt hj]
  refine dtf_congr fun x hx => ⟨?_, rfl⟩
  rw [wideL_get _ (by show _ < A.length; omega), wideL_get _ (by show _ < (rwL C A r).length; rw [rwL_len hA hr]; omega)]
  show widen g _ = widen g _
  congr 1
  show A.getD _ 0 = (rwL C A r).getD _ 0
  rw [Nat.zero_mul, Nat.zero_add, rwL_get hx]
theorem fwdL_row (k f : Int) (Z : List Int) {R r C : Nat} (hZ : Z.length = R * C) (hr : r < R) :
    rwL C (fwdL k ((R : Int), (C : Int), f, Z, ())) r = fwdL k ((1 : Int), (C : Int), f, rwL C Z r, ()) := by
  unfold fwdL
  simp only [hZ, rwL_len hZ hr]
  rw [rwL_map _ hr]
  apply List.map_congr_left
  intro j hj
  rw [rwL_get (List.mem_range.1 hj)]
section
variable {c : CfgT} {p : List PaT} {w : List TsT} {d : Nat → Nat} {R : Nat} {A : List Int} (h : Fit c p w d)
include h
omit h in
theorem step_row (i : Nat) (B : List Int) {r : Nat} (hB : B.length = R * d i) (hr : r < R) : rwL (d (i + 1)) (stepL c p w d R i B) r = stepL c p w d 1 i (rwL (d i) B r) :=
  linL_row _ _ B _ _ hB hr
theorem xl_row {r : Nat} (hA : A.length = R * d 0) (hr : r < R) : ∀ i, rwL (d i) (xl c p w d R A i) r = xl c p w d 1 (rwL (d 0) A r) i
  | 0 => rfl
  | i + 1 => by
    show rwL _ (fwdL _ _) r = fwdL _ _
    rw [fwdL_row _ _ _ (stepL_len h i _) hr, step_row i _ (xl_len h hA i) hr, xl_row hA hr i]
    rfl
theorem z_row {r : Nat} (hA : A.length = R * d 0) (hr : r < R) (i : Nat) : rwL (d (i + 1)) (tZ c p w d R A i).2.2.2.1 r = (tZ c p w d 1 (rwL (d 0) A r) i).2.2.2.1 := by
  show rwL _ (stepL c p w d R i _) r = stepL c p w d 1 i _
  rw [step_row i _ (xl_len h hA i) hr, xl_row h hA hr i]
end
end Go.Proofs.YtkmkhcmfpbffjaaGreat.VI

namespace Go.Proofs.YtkmkhcmfpbffjaaGreat.VI
set_option linter.unusedVariables false
set_option linter.unusedSimpArgs false
set_option maxRecDepth 100000
set_option maxHeartbeats 4000000
theorem wlist_bd (k : Int) : (2 ≤ (wlist k).length ∧ (wlist k).length ≤ 4) ∧ ∀ i, i < (wlist k).length → 1 ≤ (wlist k).getD i 0 ∧ (wlist k).getD i 0 ≤ 4 := by
  have key : ∀ l : List Int, (decide (2 ≤ l.length) && (decide (l.length ≤ 4) && (List.range l.length).all fun i => decide (1 ≤ l.getD i 0) && decide (l.getD i 0 ≤ 4))) = true → (2 ≤ l.length ∧ l.length ≤ 4) ∧ ∀ i, i < l.length → 1 ≤ l.getD i 0 ∧ l.getD i 0 ≤ 4 := by
    intro l h
    simp only [Bool.and_eq_true, decide_eq_true_eq] at h
    refine ⟨⟨h.1, h.2.1⟩, fun i hi => ?_⟩
    have := List.all_eq_true.1 h.2.2 i (List.mem_range.2 hi)
    simpa using this
  unfold wlist
  repeat' split
  all_goals exact key _ (by decide)
theorem par_at {W l : List Int} {m : Bool} {n i : Nat} (hi : i < n) (hn : n + 1 = W.length) (hw : ∀ j, j < W.length → 1 ≤ W.getD j 0 ∧ W.getD j 0 ≤ 4) (hl : l.length ≤ 1000000) :
    ∃ (a b : Nat) (V D : List Int), W.getD (i + 1) 0 = a ∧ W.getD i 0 = b ∧ a ≤ 4 ∧ b ≤ 4 ∧ (parL W l m n).getD i dP = (((a : Int), (b : Int), 2, V, ()), ((1 : Int), (a : Int), 2, D, ()), ()) ∧ V.length = a * b ∧ (∀ v ∈ V, wf 2 v) ∧ (m = true → ∀ v ∈ V, mildP 2 v) ∧ D.length = 1 * a ∧ (∀ v ∈ D, wf 2 v) := by
  have h1 := hw (i + 1) (by omega)
  have h2 := hw i (by omega)
  obtain ⟨a, ha⟩ : ∃ a : Nat, W.getD (i + 1) 0 = a := ⟨(W.getD (i + 1) 0).toNat, by omega⟩
  obtain ⟨b, hb⟩ : ∃ b : Nat, W.getD i 0 = b := ⟨(W.getD i 0).toNat, by omega⟩
  have hr : (parR l i l.length).length = l.length := by simp [parR]
  obtain ⟨_, V, e1, v1, v2, v3⟩ := sT_ok a b 2 (parR l i l.length) m (by omega) (by omega) (by omega)
  obtain ⟨_, D, e2, u1, u2, u3⟩ := sT_ok 1 a 2 (parR l i l.length) m (by omega) (by omega) (by omega)
  have eg : (parL W l m n).getD i dP = parO W l m i := by simp [parL, List.getD, hi]
  refine ⟨a, b, V, D, ha, hb, by omega, by omega, ?_, v1, v2, v3, u1, u2⟩
  rw [eg]
  unfold parO
  rw [ha, hb, e1, show sT 1 (a : Int) 2 (parR l i l.length) m = _ from e2]
  rfl
end Go.Proofs.YtkmkhcmfpbffjaaGreat.VI

namespace Go.Proofs.YtkmkhcmfpbffjaaGreat.VI
set_option linter.unusedVariables false
set_option linter.unusedSimpArgs false
set_option maxRecDepth 100000
set_option maxHeartbeats 4000000
theorem nrSt (p : List PaT) (w : List TsT) (n : Nat) (i : Int) (c : CfgT) (x z : TsT) (L : List Int) (R : Type) (kn : S_9b_0 → Option R) (ko : E_9b_0 → Option R) :
    st_9b_0 R ((p, (w, (n, (i, ())))), (c, (x, (z, (L, ()))))) kn ko =
      bif (decide (i < x.1)) then
        bif (decide (((0:Int) ≤ (IntKind.wrap .i64 (i * x.2.1))) ∧ (((IntKind.wrap .i64 (i * x.2.1)) ≤ (IntKind.wrap .i64 ((IntKind.wrap .i64 (i + 1)) * x.2.1))) ∧ ((IntKind.wrap .i64 ((IntKind.wrap .i64 (i + 1)) * x.2.1)) ≤ ((x.2.2.2.1.length : Nat) : Int))))) then
          bif (((allR p.length (fun _ => true)) && ((allR w.length (fun _ => true)) && true)) && true) then
            (F_912 (tkc c) (rowsP p) (rowsT w) (1, (x.2.1, (x.2.2.1, (List.take ((Int.toNat (IntKind.wrap .i64 ((IntKind.wrap .i64 (i + 1)) * x.2.1))) - Int.toNat (IntKind.wrap .i64 (i * x.2.1))) (List.take ((Int.toNat (IntKind.wrap .i64 ((IntKind.wrap .i64 (i + 1)) * x.2.1))) - Int.toNat (IntKind.wrap .i64 (i * x.2.1))) (List.drop (Int.toNat (IntKind.wrap .i64 (i * x.2.1))) x.2.2.2.1)), ())))) (-1)).bind fun r =>
            bif (r.2.2.1 != (0:Int)) then ko (Sum.inr ((false, ()), ()))
            else
              bif (((r.2.1.2.2.1.length : Nat) : Int) != ((p.length : Nat) : Int)) then ko (Sum.inr ((false, ()), ()))
              else
                bif (decide ((n + r.1.2.2.2.1.length) ≤ 1073741824)) then
                  bif (((allR p.length (fun _ => true)) && ((allR w.length (fun _ => true)) && true)) && true) then
                    kn ((rowsP p, (rowsT w, (n + r.1.2.2.2.1.length, (IntKind.wrap .i64 (i + 1), ())))), (tkc c, (tkN x, (tkN z, (List.take n L ++ List.take r.1.2.2.2.1.length r.1.2.2.2.1, ())))))
                  else none
                else none
          else none
        else none
      else ko (Sum.inl ((n, ()), (tkN z, (L, ())))) := by kernel_rfl
theorem nrF (a b c : Int) (l r : List Int) (rows : Int) : F_9b a b c l r rows =
    (F_9d).bind fun r0 =>
    bif (!r0) then some false
    else
      bif (decide (((l.length : Nat) : Int) > (20:Int))) then some true
      else
        bif (decide (((r.length : Nat) : Int) > (20:Int))) then some true
        else
          (F_9e a b c 1 3).bind fun x =>
          (F_9f (List.take x.1.length x.1) (List.take l.length l) true).bind fun p =>
          bif (((allR p.length (fun _ => true)) && true) && true) then
            (F_910 (tkc x) (rowsP p) (-1)).bind fun q =>
            bif (decide (((0:Int) ≤ (0:Int)) ∧ ((0:Int) < ((x.1.length : Nat) : Int)))) then
              (F_911 (IntKind.wrap .i64 (Int.tmod rows 4)) (x.1.getD 0 0) (cFmt x) (List.take r.length r) true).bind fun t =>
              bif (((allR p.length (fun _ => true)) && ((allR q.1.length (fun _ => true)) && true)) && true) then
                (F_912 (tkc x) (rowsP p) (rowsT q.1) (tkN t) (-1)).bind fun z =>
                bif (z.2.2.1 != (0:Int)) then some false
                else
                  bif (z.1.1 != t.1) then some false
                  else
                    bif (((allR p.length (fun _ => true)) && ((allR q.1.length (fun _ => true)) && true)) && true) then
                      (lim st_9b_0 ((rowsP p, (rowsT q.1, ((0 : Nat), ((0:Int), ())))), (tkc x, (tkN t, (tkN z.1, ([], ())))))).bind fun e =>
                      els (fun s => (F_913 (List.take s.1.1 (List.drop 0 s.2.2.1)) (List.take s.2.1.2.2.2.1.length s.2.1.2.2.2.1)).bind fun v => some v) (fun s => some s.1.1) e
                    else none
              else none
            else none
          else none := by kernel_rfl
theorem neg1 : (-1 : Int) < 0 := by decide
theorem nr_loop {c : CfgT} {p : List PaT} {w : List TsT} {d : Nat → Nat} {R : Nat} {A : List Int} (h : Fit c p w d) (hR : R ≤ 3) (hd : ∀ i, d i ≤ 4) (hA : A.length = R * d 0) (wA : ∀ v ∈ A, wf (cFmt c) v) :
    lim st_9b_0 ((p, (w, ((0 : Nat), ((0:Int), ())))), (c, (tX c p w d R A 0, (tZ c p w d R A (p.length - 1), ([], ()))))) = some (Sum.inl ((R * d p.length, ()), (tZ c p w d R A (p.length - 1), ((tZ c p w d R A (p.length - 1)).2.2.2.1, ())))) := by
  have lz : (tZ c p w d R A (p.length - 1)).2.2.2.1.length = R * d p.length := by
    have := stepL_len (R := R) h (p.length - 1) (xl c p w d R A (p.length - 1))
    rw [show p.length - 1 + 1 = p.length by have := h.n; omega] at this
    exact this
  have key : lim st_9b_0 ((p, (w, ((0 * d p.length : Nat), (((0 : Nat) : Int), ())))), (c, (tX c p w d R A 0, (tZ c p w d R A (p.length - 1), (List.take (0 * d p.length) (tZ c p w d R A (p.length - 1)).2.2.2.1, ()))))) = some (Sum.inl ((R * d p.length, ()), (tZ c p w d R A (p.length - 1), (List.take (R * d p.length) (tZ c p w d R A (p.length - 1)).2.2.2.1, ())))) :=
    lim_seq (st := st_9b_0) (fun (i : Nat) => ((p, (w, (i * d p.length, ((i : Int), ())))), (c, (tX c p w d R A 0, (tZ c p w d R A (p.length - 1), (List.take (i * d p.length) (tZ c p w d R A (p.length - 1)).2.2.2.1, ())))))) R
      (fun i hi Q kn ko => by
        have h0 := h.n
        have hi4 : i ≤ 3 := by omega
        have hw : i * d 0 + d 0 ≤ R * d 0 := row_fit hi
        have hw12 : R * d 0 ≤ 12 := Nat.mul_le_mul hR (hd 0)
        have hz : i * d p.length + d p.length ≤ R * d p.length := row_fit hi
        have hz12 : R * d p.length ≤ 12 := Nat.mul_le_mul hR (hd _)
        have e1 : IntKind.i64.wrap ((i : Int) * (d 0 : Int)) = ((i * d 0 : Nat) : Int) := by rw [← Int.natCast_mul, wi64 (by omega)]
        have e2 : IntKind.i64.wrap ((i : Int) + 1) = ((i + 1 : Nat) : Int) := by rw [wi64 (by omega)]; omega
        have e3 : IntKind.i64.wrap (((i + 1 : Nat) : Int) * (d 0 : Int)) = ((i * d 0 + d 0 : Nat) : Int) := by rw [← Int.natCast_mul, Nat.succ_mul, wi64 (by omega)]
        have eR : List.take (d 0) (List.drop (i * d 0) A) = rwL (d 0) A i := rfl
        have lr : (rwL (d 0) A i).length = 1 * d 0 := by rw [rwL_len hA hi, Nat.one_mul]
        have wr : ∀ v ∈ rwL (d 0) A i, wf (cFmt c) v := fun v hv => wA v (List.mem_of_mem_drop (List.mem_of_mem_take hv))
        have F := fwd_ok (A := rwL (d 0) A i) (R := 1) h (micro := -1) (.inr neg1) (by decide) lr wr fun j hj => by
          rw [h.dim j (by have := h.cn; omega)]
          have := hd j
          omega
        have lzr : (tZ c p w d 1 (rwL (d 0) A i) (p.length - 1)).2.2.2.1 = rwL (d p.length) (tZ c p w d R A (p.length - 1)).2.2.2.1 i := by
          have := z_row h hA hi (p.length - 1)
          rw [show p.length - 1 + 1 = p.length by omega] at this
          exact this.symm
        have lzl : (rwL (d p.length) (tZ c p w d R A (p.length - 1)).2.2.2.1 i).length = d p.length := rwL_len lz hi
        show st_9b_0 Q ((p, (w, (i * d p.length, ((i : Int), ())))), (c, (tX c p w d R A 0, (tZ c p w d R A (p.length - 1), (List.take (i * d p.length) (tZ c p w d R A (p.length - 1)).2.2.2.1, ()))))) kn ko
          = kn ((p, (w, ((i + 1) * d p.length, (((i + 1 : Nat) : Int), ())))), (c, (tX c p w d R A 0, (tZ c p w d R A (p.length - 1), (List.take ((i + 1) * d p.length) (tZ c p w d R A (p.length - 1)).2.2.2.1, ())))))
        rw [nrSt]
        simp only [bif_dec, allR_true, Bool.and_true, cond_true, rowsP_id, rowsT_id, tkc_id, tkN_id]
        rw [show (tX c p w d R A 0).1 = (R : Int) from rfl, show (tX c p w d R A 0).2.1 = (d 0 : Int) from rfl, show (tX c p w d R A 0).2.2.1 = cFmt c from rfl, show (tX c p w d R A 0).2.2.2.1 = A from rfl]
        simp only [e1, e2, e3, Int.toNat_natCast]
        rw [if_pos (show (i : Int) < (R : Int) by omega), if_pos (show (0 : Int) ≤ ((i * d 0 : Nat) : Int) ∧ ((i * d 0 : Nat) : Int) ≤ ((i * d 0 + d 0 : Nat) : Int) ∧ ((i * d 0 + d 0 : Nat) : Int) ≤ (A.length : Int) by omega),
          show i * d 0 + d 0 - i * d 0 = d 0 by omega, eR, List.take_of_length_le (show (rwL (d 0) A i).length ≤ d 0 by omega),
          show F_912 c p w (1, ((d 0 : Int), (cFmt c, (rwL (d 0) A i, ())))) (-1) = _ from F]
        simp only [Option.bind_some, bne_self_eq_false, cond_false, List.length_replicate, lzr, lzl]
        rw [if_pos (show i * d p.length + d p.length ≤ 1073741824 by omega), Nat.succ_mul, List.take_of_length_le (show (rwL (d p.length) (tZ c p w d R A (p.length - 1)).2.2.2.1 i).length ≤ d p.length by omega), List.take_take, Nat.min_self, List.take_add]
        rfl)
      (fun Q kn ko => by
        show st_9b_0 Q ((p, (w, (R * d p.length, ((R : Int), ())))), (c, (tX c p w d R A 0, (tZ c p w d R A (p.length - 1), (List.take (R * d p.length) (tZ c p w d R A (p.length - 1)).2.2.2.1, ()))))) kn ko = _
        rw [nrSt]
        simp only [bif_dec, tkN_id]
        rw [if_neg (show ¬ (R : Int) < (tX c p w d R A 0).1 from Int.lt_irrefl _)])
  rw [Nat.zero_mul, List.take_zero, List.take_of_length_le (by omega)] at key
  exact key
end Go.Proofs.YtkmkhcmfpbffjaaGreat.VI

namespace Go.Proofs.YtkmkhcmfpbffjaaGreat.VI
set_option linter.unusedVariables false
set_option linter.unusedSimpArgs false
set_option maxRecDepth 100000
set_option maxHeartbeats 4000000
theorem fmt3 {a : Int} (h : 0 ≤ a) : knownS ((a / 6) % 3) = true := by
  have : a / 6 % 3 = 0 ∨ a / 6 % 3 = 1 ∨ a / 6 % 3 = 2 := by omega
  rcases this with e | e | e <;> rw [e] <;> decide
theorem netRows {a b c : Int} {l r : List Int} {rows : Int} (ha : 0 ≤ a ∧ a ≤ 255) (hb : 0 ≤ b ∧ b ≤ 255) (hc : 0 ≤ c ∧ c ≤ 255) (hr : 0 ≤ rows ∧ rows ≤ 255) : F_9b a b c l r rows = some true := by
  rw [nrF, known17]
  simp only [Option.bind_some, Bool.not_true, cond_false, bif_dec]
  by_cases hl : ((l.length : Nat) : Int) > 20
  · rw [if_pos hl]
  rw [if_neg hl]
  by_cases hrl : ((r.length : Nat) : Int) > 20
  · rw [if_pos hrl]
  rw [if_neg hrl, cfg_eq ha hb hc (by decide)]
  simp only [Option.bind_some, List.take_length, tkc_id]
  obtain ⟨⟨w1, w2⟩, w3⟩ := wlist_bd (a % 6)
  have c1 : (cfg a b c 1 3).1 = wlist (a % 6) := rfl
  have c2 : cFmt (cfg a b c 1 3) = (a / 6) % 3 := rfl
  have c3 : cChance (cfg a b c 1 3) = false := rfl
  have c4 : 0 ≤ cAct (cfg a b c 1 3) ∧ cAct (cfg a b c 1 3) ≤ 3 := by
    show 0 ≤ b % 4 ∧ b % 4 ≤ 3
    omega
  have kf : knownS (cFmt (cfg a b c 1 3)) = true := by rw [c2]; exact fmt3 ha.1
  rw [c1, params_eq (wlist (a % 6)) l true (by omega) (by omega) (by omega) (fun i hi => by have := w3 i hi; omega)]
  simp only [Option.bind_some, allR_true, Bool.and_true, cond_true, rowsP_id]
  generalize cfg a b c 1 3 = C at c1 c2 c3 c4 kf ⊢
  generalize wlist (a % 6) = W at w1 w2 w3 c1 ⊢
  obtain ⟨n, hn⟩ : ∃ n, n + 1 = W.length := ⟨W.length - 1, by omega⟩
  rw [show W.length - 1 = n by omega]
  have pl : (parL W l true n).length = n := by simp [parL]
  have at_ := fun i (hi : i < n) => par_at (l := l) (m := true) hi hn w3 (show l.length ≤ 1000000 by omega)
  have okp : ∀ i, i < (parL W l true n).length → okP ((parL W l true n).getD i dP) := fun i hi => by
    obtain ⟨x, y, V, D, _, _, x4, y4, e, v1, v2, _, u1, u2⟩ := at_ i (by omega)
    rw [e]
    have := Nat.mul_le_mul x4 y4
    exact ⟨⟨wf_wl v2, by show V.length ≤ _; omega⟩, wf_wl u2, by show D.length ≤ _; omega⟩
  have shp : ∀ i, i < (parL W l true n).length → shpP C (parL W l true n) i = true := fun i hi => by
    obtain ⟨x, y, V, D, ex, ey, x4, y4, e, v1, v2, _, u1, u2⟩ := at_ i (by omega)
    unfold shpP shp1
    rw [e, c1, ex, ey]
    have r1 : rightS ((x : Int), (y : Int), 2, V, ()) = true := wf_right (by omega) (by omega) v1 (by decide) v2
    have r2 : rightS ((1 : Int), (x : Int), 2, D, ()) = true := wf_right (R := 1) (by omega) (by omega) u1 (by decide) u2
    simp [r1, r2]
  rw [lowR_ok C (parL W l true n) (-1) (by rw [pl, c1]; omega) (by rw [c1]; omega) okp shp kf c3]
  have ll : (lowL C (parL W l true n) (parL W l true n).length).length = n := by simp [lowL, pl]
  simp only [Option.bind_some, rowsT_id]
  have dW : ∀ i, W.getD i 0 = ((W.getD i 0).toNat : Int) ∧ (W.getD i 0).toNat ≤ 4 := fun i => by
    by_cases hi : i < W.length
    · have := w3 i hi; omega
    · have : W.getD i 0 = 0 := by simp [List.getD, hi]
      omega
  have lw : ∀ i, i < n → ∃ (x y : Nat) (V : List Int), W.getD (i + 1) 0 = x ∧ W.getD i 0 = y ∧ x ≤ 4 ∧ y ≤ 4 ∧ (lowL C (parL W l true n) (parL W l true n).length).getD i dT = ((x : Int), (y : Int), cFmt C, V, ()) ∧ V.length = x * y ∧ ∀ v ∈ V, wf (cFmt C) v := fun i hi => by
    obtain ⟨x, y, V, D, ex, ey, x4, y4, e, v1, v2, _, u1, u2⟩ := at_ i hi
    have r1 : rightS ((x : Int), (y : Int), 2, V, ()) = true := wf_right (by omega) (by omega) v1 (by decide) v2
    refine ⟨x, y, castL ((x : Int), (y : Int), 2, V, ()) (cFmt C), ex, ey, x4, y4, ?_, by rw [castL_len]; exact v1, castL_wf _ _⟩
    have : (lowL C (parL W l true n) (parL W l true n).length).getD i dT = lowOne C ((parL W l true n).getD i dP).1 := by
      rw [pl]; simp [lowL, List.getD, hi]
    rw [this, e]
    unfold lowOne castT
    rw [if_pos r1, if_pos kf]
  have fit : Fit C (parL W l true n) (lowL C (parL W l true n) (parL W l true n).length) (fun i => (W.getD i 0).toNat) :=
    { n := by omega
      wn := by rw [ll, pl]
      cn := by rw [c1, pl]; omega
      c1000 := by rw [c1]; omega
      dim := fun i hi => by rw [c1]; exact (dW i).1
      dle := fun i => by have := (dW i).2; omega
      okp := okp
      shp := shp
      okw := fun i hi => by
        obtain ⟨x, y, V, _, _, x4, y4, e, v1, v2⟩ := lw i (by omega)
        rw [e]
        have := Nat.mul_le_mul x4 y4
        exact ⟨wf_wl v2, by show V.length ≤ _; omega⟩
      shw := fun i hi => by
        obtain ⟨x, y, V, ex, ey, x4, y4, e, v1, v2⟩ := lw i (by omega)
        have r1 : rightS ((x : Int), (y : Int), cFmt C, V, ()) = true := wf_right (by omega) (by omega) v1 kf v2
        rw [e, c1, ex, ey]
        unfold shp1
        simp [r1]
      fmt := kf
      act := c4 }
  obtain ⟨R, hR, hR3⟩ : ∃ R : Nat, IntKind.i64.wrap (Int.tmod rows 4) = (R : Int) ∧ R ≤ 3 := by
    rw [tmod_nn hr.1, wi64 (by omega)]
    exact ⟨(rows % 4).toNat, by omega, by omega⟩
  rw [if_pos (show (0 : Int) ≤ 0 ∧ (0 : Int) < ((W.length : Nat) : Int) by omega), hR, (dW 0).1]
  obtain ⟨te, A, ta, la, wa, _⟩ := sT_ok R (W.getD 0 0).toNat (cFmt C) r true (by omega) (by have := (dW 0).2; omega) (by omega)
  rw [te]
  simp only [Option.bind_some, ta, tkN_id]
  have F := fwd_ok fit (micro := -1) (.inr neg1) (show R ≤ 4096 by omega) (A := A) la wa fun i hi => by
    rw [c1, (dW i).1]
    have := Nat.mul_le_mul hR3 (dW i).2
    rw [← Int.natCast_mul]
    omega
  rw [show F_912 C (parL W l true n) (lowL C (parL W l true n) (parL W l true n).length) ((R : Int), (((W.getD 0 0).toNat : Int), (cFmt C, (A, ())))) (-1) = _ from F]
  simp only [Option.bind_some, bne_self_eq_false, cond_false]
  rw [show ((tZ C (parL W l true n) (lowL C (parL W l true n) (parL W l true n).length) (fun i => (W.getD i 0).toNat) R A ((parL W l true n).length - 1)).1 != (R : Int)) = false from bne_self_eq_false _]
  simp only [cond_false]
  have K := nr_loop fit hR3 (fun i => (dW i).2) la wa
  rw [show lim st_9b_0 ((parL W l true n, (lowL C (parL W l true n) (parL W l true n).length, ((0 : Nat), ((0:Int), ())))), (C, (((R : Int), (((W.getD 0 0).toNat : Int), (cFmt C, (A, ())))), (tZ C (parL W l true n) (lowL C (parL W l true n) (parL W l true n).length) (fun i => (W.getD i 0).toNat) R A ((parL W l true n).length - 1), ([], ()))))) = _ from K]
  have lz : (tZ C (parL W l true n) (lowL C (parL W l true n) (parL W l true n).length) (fun i => (W.getD i 0).toNat) R A ((parL W l true n).length - 1)).2.2.2.1.length = R * (W.getD (parL W l true n).length 0).toNat := by
    have := stepL_len (R := R) fit ((parL W l true n).length - 1) (xl C (parL W l true n) (lowL C (parL W l true n) (parL W l true n).length) (fun i => (W.getD i 0).toNat) R A ((parL W l true n).length - 1))
    rw [show (parL W l true n).length - 1 + 1 = (parL W l true n).length by omega] at this
    exact this
  have h12 := Nat.mul_le_mul hR3 (dW (parL W l true n).length).2
  simp only [Option.bind_some, els, List.drop_zero]
  rw [List.take_of_length_le (by omega), nums_eq _ _ (by omega)]
  simp
theorem callNetRows : ∀ l, args [.i .u8, .i .u8, .i .u8, .ints .u32, .ints .u32, .i .u8] l → oks l → CallOk PR i_9b l [] fun r _ => r = .b true :=
  rowT (fa := fa_9b) (F := G_9b) rfl rfl ok_9b (enters p_9b (by kernel_rfl) (by kernel_rfl)) rfl fun x hx =>
    netRows hx.1 hx.2.1 hx.2.2.1 hx.2.2.2.2.2.1
end Go.Proofs.YtkmkhcmfpbffjaaGreat.VI

namespace Go.Proofs.YtkmkhcmfpbffjaaGreat.VI
set_option linter.unusedVariables false
set_option linter.unusedSimpArgs false
open Go.ChangeShapes Go.WideShapes Go.RowKit Go.WideElems YtkmkhcmfpbffjaaGreat
set_option maxRecDepth 100000
theorem laid : laidOutB Tryz.prog = true := by kernel_rfl
theorem own : ownKnob Tryz.prog.godebug = none := by kernel_rfl
theorem lifted (os : Os) (started : os.Started) (H : Type) (enc : TypeId × Value → H) :
    ReturnsInHanded {} Tryz.checked os 4 .any (Rows.netRowsSpec.pre6 enc Tryz.prog Tryz.f4 Rows.netRowsRow.domain false) (Rows.netRowsSpec.post enc Tryz.prog Tryz.f4 false true false false) :=
  lift_args (C := Tryz.checked) own started (by kernel_rfl) Tryz.func4
    (ChangeSpec.witness6 (enc := enc) (C := Tryz.checked) false ⟨#[], #[.int .u8 0, .int .u8 0, .int .u8 0, .slice none 0 0, .slice none 0 0, .int .u8 0], []⟩ 8 (by kernel_rfl) (by kernel_rfl) (by kernel_rfl) (by kernel_rfl))
    laid Tryz.underlying4 rfl (by kernel_rfl) rfl (fun ds hd => match ds, hd with
    | [_, _, _, _, _, _], _ => rfl) (d := 6) (by kernel_rfl) (Fs := [.i .u8, .i .u8, .i .u8, .ints .u32, .ints .u32, .i .u8]) (by kernel_rfl) callNetRows
theorem over : Rows.netRowsRow.holds Tryz.pinned (OpenSpec.ofChange Rows.netRowsSpec) :=
  OpenClaim.holds_of_wide 4 Tryz.f4 rfl rfl rfl rfl rfl rfl rfl ⟨rfl, rfl, rfl, rfl, rfl⟩ rfl rfl rfl rfl rfl (by kernel_rfl) Tryz.func4 (by kernel_rfl)
    (of_decide_eq_true (by kernel_rfl)) (by unfold Func.isWrapper; first | (rw [if_pos (by decide +kernel)]; kernel_rfl) | (rw [if_neg (by decide +kernel)]; exact ⟨rfl, rfl⟩))
    (fun os started H enc _ => lifted os started H enc)
end Go.Proofs.YtkmkhcmfpbffjaaGreat.VI
