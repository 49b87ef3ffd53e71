import Derived.Test.YtkknnloamidaiaaGreatTf1246ad3
import Derived.Test.YtkknnloamidaiaaGreatRows
import Derived.WalkKit
import Derived.ProofKit
namespace Go.Proofs.YtkknnloamidaiaaGreat.VI
set_option linter.unusedVariables false
set_option linter.unusedSimpArgs false
set_option linter.unusedSimpArgs false
set_option linter.unusedVariables false
set_option maxRecDepth 100000
set_option maxHeartbeats 8000000
def mulf (a b : Int) : Int := (mulS 2 0 a b).1
theorem mulf_w (a b : Int) : w32 (mulf a b) := wf_w (mul_wf 2 0 a b)
theorem fmul_eq {a b : Int} (ha : w32 a) (hb : w32 b) : F_funcs_Mul a b = some (mulf a b) := by
  unfold F_funcs_Mul; rw [mul_eq 2 0 ha hb]; rfl
theorem rmul_eq {a b : Int} (ha : w32 a) (hb : w32 b) : F_annealref10_Mul a b = some (mulf a b) := by
  unfold F_annealref10_Mul; rw [mulr_eq 2 0 ha hb]; rfl
theorem radd_eq {a b : Int} (ha : w32 a) (hb : w32 b) : F_annealref10_Add a b = some (addf a b) := by
  unfold F_annealref10_Add; rw [addr_eq 2 0 ha hb]; rfl
theorem bias_bad (a b : TsT) (hA : wl a.2.2.2.1) (hB : wl b.2.2.2.1) (nA : a.2.2.2.1.length ≤ 1073741824) (nB : b.2.2.2.1.length ≤ 1073741824) (h : (rightS a && rightS b) = false) : F_kern_Bias a b = some (noT, 21, ()) ∧ F_kern_Add a b = some (noT, 21, ()) := by
  have hb := both_eq a b hA hB nA nB
  constructor
  · unfold F_kern_Bias
    dsimp only
    simp only [List.take_length]
    rw [show (a.1, a.2.1, a.2.2.1, a.2.2.2.1, ()) = a from rfl, show (b.1, b.2.1, b.2.2.1, b.2.2.2.1, ()) = b from rfl, hb, h]
    rfl
  · unfold F_kern_Add F_kern_pairs__funcs_Add
    dsimp only
    simp only [List.take_length]
    rw [show (a.1, a.2.1, a.2.2.1, a.2.2.2.1, ()) = a from rfl, show (b.1, b.2.1, b.2.2.1, b.2.2.2.1, ()) = b from rfl, hb, h]
    rfl
theorem biasr_loop (R C J : Nat) (f g : Int) (A B : List Int) (z : Int × Int × Int × Unit) (hR : R ≤ 4096) (hC : C ≤ 4096) (lA : A.length = R * C) (lB : B.length = 1 * C) (wA : wl A) (wB : wl B) :
    lim st_annealref13_Bias_0 (((0:Int), ()), (((R : Int), ((C : Int), (f, (A, ())))), (((J : Int), ((C : Int), (g, (B, ())))), (z, (((R : Int), ((C : Int), ((2 : Int), (A.length, ())))), (List.replicate A.length 0, ())))))) =
      some ((), (z, (((R : Int), ((C : Int), ((2 : Int), (A.length, ())))), ((List.range A.length).map (fun i => addf (gl (wideL ((R : Int), (C : Int), f, A, ())) i) (gl (wideL ((J : Int), (C : Int), g, B, ())) (i % C))), ())))) := by
  have hb := rc_bd hR hC
  have wWA := wideL_wl ((R : Int), (C : Int), f, A, ())
  have wWB := wideL_wl ((J : Int), (C : Int), g, B, ())
  have := lim_seq (st := st_annealref13_Bias_0) (fun i => (((i : Int), ()), (((R : Int), ((C : Int), (f, (A, ())))), (((J : Int), ((C : Int), (g, (B, ())))), (z, (((R : Int), ((C : Int), ((2 : Int), (A.length, ())))), (lay1 (fun i => addf (gl (wideL ((R : Int), (C : Int), f, A, ())) i) (gl (wideL ((J : Int), (C : Int), g, B, ())) (i % C))) A.length i, ())))))))
    (b := ((), (z, (((R : Int), ((C : Int), ((2 : Int), (A.length, ())))), ((List.range A.length).map (fun i => addf (gl (wideL ((R : Int), (C : Int), f, A, ())) i) (gl (wideL ((J : Int), (C : Int), g, B, ())) (i % C))), ()))))) A.length
    (fun i hi R' kn ko => by
      have hC0 : 0 < C := by apply Nat.pos_of_ne_zero; intro e; subst e; simp at lA; simp [lA] at hi
      have hm := Nat.mod_lt i hC0
      have hll := lay1_len (fun i => addf (gl (wideL ((R : Int), (C : Int), f, A, ())) i) (gl (wideL ((J : Int), (C : Int), g, B, ())) (i % C))) (Nat.le_of_lt hi)
      have hls := lay1_set (fun i => addf (gl (wideL ((R : Int), (C : Int), f, A, ())) i) (gl (wideL ((J : Int), (C : Int), g, B, ())) (i % C))) hi
      have e1 := wider_eq ((R : Int), (C : Int), f, A, ()) (i := i) wA hi
      have e2 := wider_eq ((J : Int), (C : Int), g, B, ()) (i := i % C) wB (by simp only; omega)
      have e3 := radd_eq (wl_get wWA i) (wl_get wWB (i % C))
      have hz : ((C : Int) == 0) = false := beq_false_of_ne (by omega)
      have ht : Int.tmod (i : Int) (C : Int) = ((i % C : Nat) : Int) := by rw [tmod_nn (by omega)]; simp
      unfold st_annealref13_Bias_0
      dsimp only at hls ⊢
      simp only [List.take_length, bif_dec, hll, Int.toNat_natCast, hz, cond_false, ht]
      rw [if_pos (show (i : Int) < (A.length : Int) by omega)]
      rw [show F_annealref13_wide ((R : Int), ((C : Int), (f, (A, ())))) (i : Int) = _ from e1]
      simp only [Option.bind_some]
      rw [show F_annealref13_wide ((J : Int), ((C : Int), (g, (B, ())))) ((i % C : Nat) : Int) = _ from e2]
      simp only [Option.bind_some]
      rw [show F_annealref10_Add _ _ = _ from e3]
      simp only [Option.bind_some]
      rw [if_pos (show 0 ≤ (i : Int) ∧ (i : Int) < (A.length : Int) by omega), if_pos (show 0 + i * 1 < A.length by omega), show 0 + i * 1 = i by omega, hls, wi64 (by omega), show ((i + 1 : Nat) : Int) = (i : Int) + 1 by omega])
    (fun R' kn ko => by
      unfold st_annealref13_Bias_0
      dsimp only
      simp only [List.take_length, bif_dec]
      rw [if_neg (show ¬ (A.length : Int) < (A.length : Int) by omega), lay1_all])
  rw [lay1_zero] at this
  exact this
theorem biasr_eq (a b : TsT) (hA : wl a.2.2.2.1) (hB : wl b.2.2.2.1) (nA : a.2.2.2.1.length ≤ 1073741824) (nB : b.2.2.2.1.length ≤ 1073741824) : F_annealref13_Bias a b = F_kern_Bias a b := by
  by_cases hr : (rightS a && rightS b) = false
  · rw [(bias_bad a b hA hB nA nB hr).1]
    obtain ⟨a1, a2, f, A, ⟨⟩⟩ := a
    obtain ⟨b1, b2, g, B, ⟨⟩⟩ := b
    simp only at hA hB nA nB
    unfold F_annealref13_Bias
    dsimp only
    simp only [List.take_length]
    rw [rightr_eq (a1, a2, f, A, ()) hA (by simp only; omega)]
    simp only [Option.bind_some]
    cases h1 : rightS (a1, a2, f, A, ())
    · rfl
    · rw [h1] at hr
      rw [rightr_eq (b1, b2, g, B, ()) hB (by simp only; omega)]
      simp only [Option.bind_some]
      cases h2 : rightS (b1, b2, g, B, ())
      · rfl
      · rw [h2] at hr; cases hr
  · obtain ⟨a1, a2, f, A, ⟨⟩⟩ := a
    obtain ⟨b1, b2, g, B, ⟨⟩⟩ := b
    simp only at hA hB nA nB
    have hr' : rightS (a1, a2, f, A, ()) = true ∧ rightS (b1, b2, g, B, ()) = true := by simpa using hr
    obtain ⟨R, C, rfl, rfl, hR, hC, lA, _, _⟩ := right_nat hr'.1
    obtain ⟨J, D, rfl, rfl, hJ, hD, lB, _, _⟩ := right_nat hr'.2
    rw [bias_ok R C J D f g A B hA hB hr'.1 hr'.2]
    unfold F_annealref13_Bias
    dsimp only
    simp only [List.take_length]
    rw [rightr_eq _ hA (by simp only; omega), rightr_eq _ hB (by simp only; omega), hr'.1, hr'.2]
    simp only [Option.bind_some, Bool.not_true, cond_false, bif_ne, bif_dec, Int.toNat_natCast]
    by_cases h1 : J = 1
    · subst h1
      by_cases h2 : C = D
      · subst h2
        rw [if_pos (show ((1 : Nat) : Int) = 1 from rfl), if_pos rfl, if_pos (by omega), if_pos ⟨rfl, rfl⟩]
        rw [biasr_loop R C 1 f g A B _ hR hC lA lB hA hB]
        simp only [Option.bind_some, List.drop_zero]
        rw [List.take_of_length_le (by simp), lA]
      · rw [if_pos (show ((1 : Nat) : Int) = 1 from rfl), if_neg (by omega), if_neg (fun k => h2 k.2)]
    · rw [if_neg (by omega), if_neg (fun k => h1 k.1)]
end Go.Proofs.YtkknnloamidaiaaGreat.VI

namespace Go.Proofs.YtkknnloamidaiaaGreat.VI
set_option linter.unusedVariables false
set_option linter.unusedSimpArgs false
set_option linter.unusedSimpArgs false
set_option linter.unusedVariables false
set_option maxRecDepth 100000
set_option maxHeartbeats 8000000
theorem eachM_eq (t y : TsT) (g : Int) (hl : wl t.2.2.2.1) (hn : t.2.2.2.1.length ≤ 1073741824) (hy : wl y.2.2.2.1) (hc : t.2.2.2.1.length ≤ y.2.2.2.1.length) :
    F_tensor_Each__pairs_Mul t g y = some ((t.1, t.2.1, g, (List.range t.2.2.2.1.length).map (fun i => mulf (gl t.2.2.2.1 i) (gl y.2.2.2.1 i)), ()), (((), ()), (y, ()))) := by
  obtain ⟨r, c, f, l, ⟨⟩⟩ := t
  obtain ⟨b1, b2, b3, b4, ⟨⟩⟩ := y
  simp only at hl hn hy hc ⊢
  have := lim_seq (st := st_tensor_Each__pairs_Mul_0) (fun i => ((l, ((l.length : Int), ((i : Int), ()))), ((), ((b1, (b2, (b3, (b4, ())))), (((0:Int), ((0:Int), ((0:Int), ()))), ((r, (c, (g, (l.length, ())))), (lay1 (fun i => mulf (gl l i) (gl b4 i)) l.length i, ())))))))
    (b := ((), ((), ((b1, (b2, (b3, (b4, ())))), (((0:Int), ((0:Int), ((0:Int), ()))), ((r, (c, (g, (l.length, ())))), (lay1 (fun i => mulf (gl l i) (gl b4 i)) l.length l.length, ()))))))) l.length
    (fun i hi R kn ko => by
      have hll := lay1_len (fun i => mulf (gl l i) (gl b4 i)) (Nat.le_of_lt hi)
      have hls := lay1_set (fun i => mulf (gl l i) (gl b4 i)) hi
      unfold st_tensor_Each__pairs_Mul_0 F_kern_pairsc1__funcs_Mul
      dsimp only at hls ⊢
      simp only [List.take_length, bif_dec, hll, Int.toNat_natCast]
      rw [if_pos (by omega), if_pos (by omega), if_pos (by omega), fmul_eq (wl_get hl i) (wl_get hy _)]
      simp only [Option.bind_some]
      rw [if_pos (by omega), if_pos (by omega), show 0 + i * 1 = i by omega, hls, wi64 (by omega), show ((i + 1 : Nat) : Int) = (i : Int) + 1 by omega])
    (fun R kn ko => by
      unfold st_tensor_Each__pairs_Mul_0
      dsimp only
      simp only [List.take_length, bif_dec]
      rw [if_neg (by omega)])
  rw [lay1_zero] at this
  unfold F_tensor_Each__pairs_Mul
  dsimp only
  simp only [List.take_length, bif_dec, Int.toNat_natCast]
  rw [if_pos (by omega)]
  have e : lim st_tensor_Each__pairs_Mul_0 ((l, ((l.length : Int), ((0 : Int), ()))), ((), ((b1, (b2, (b3, (b4, ())))), (((0:Int), ((0:Int), ((0:Int), ()))), ((r, (c, (g, (l.length, ())))), (List.replicate l.length 0, ())))))) = _ := this
  rw [e]
  simp only [Option.bind_some, List.take_length, List.drop_zero, lay1_all]
  rw [List.take_of_length_le (by simp)]
theorem mul_ok (R C J D : Nat) (f g : Int) (A B : List Int) (hA : wl A) (hB : wl B) (rA : rightS ((R : Int), (C : Int), f, A, ()) = true) (rB : rightS ((J : Int), (D : Int), g, B, ()) = true) :
    F_kern_Mul ((R : Int), (C : Int), f, A, ()) ((J : Int), (D : Int), g, B, ()) = some (if R = J ∧ C = D then (((R : Int), (C : Int), 2, (List.range (R * C)).map (fun i => mulf (gl (wideL ((R : Int), (C : Int), f, A, ())) i) (gl (wideL ((J : Int), (D : Int), g, B, ())) i)), ()), 0, ()) else (noT, 21, ())) := by
  obtain ⟨R', C', e1, e2, hR, hC, lA, _, _⟩ := right_nat rA
  obtain ⟨J', D', e3, e4, hJ, hD, lB, _, _⟩ := right_nat rB
  obtain rfl : R = R' := by omega
  obtain rfl : C = C' := by omega
  obtain rfl : J = J' := by omega
  obtain rfl : D = D' := by omega
  have b1 := rc_bd hR hC
  have b2 := rc_bd hJ hD
  have hb := both_eq ((R : Int), (C : Int), f, A, ()) ((J : Int), (D : Int), g, B, ()) hA hB (by simp only; omega) (by simp only; omega)
  have lWA := wideL_len ((R : Int), (C : Int), f, A, ())
  have lWB := wideL_len ((J : Int), (D : Int), g, B, ())
  have wWA := wideL_wl ((R : Int), (C : Int), f, A, ())
  have wWB := wideL_wl ((J : Int), (D : Int), g, B, ())
  simp only at lWA lWB
  unfold F_kern_Mul F_kern_pairs__funcs_Mul
  dsimp only
  simp only [List.take_length]
  rw [hb, rA, rB]
  generalize wideL ((R : Int), (C : Int), f, A, ()) = X at *
  generalize wideL ((J : Int), (D : Int), g, B, ()) = Y at *
  simp only [Option.bind_some, Bool.and_self, Bool.not_true, cond_false, if_true, List.take_length, bif_ne]
  by_cases h1 : R = J
  · subst h1
    rw [if_pos rfl]
    by_cases h2 : C = D
    · subst h2
      rw [if_pos rfl, if_pos ⟨rfl, rfl⟩]
      have := eachM_eq ((R : Int), (C : Int), 2, X, ()) ((R : Int), (C : Int), 2, Y, ()) 2 wWA (by simp only; omega) wWB (by simp only; omega)
      rw [this]
      simp only [Option.bind_some, List.take_length]
      rw [lWA, lA]
    · rw [if_neg (by omega), if_neg (fun k => h2 k.2)]
      simp only [Option.bind_some, List.take_length]
  · rw [if_neg (by omega), if_neg (fun k => h1 k.1)]
    simp only [Option.bind_some, List.take_length]
theorem mul_bad (a b : TsT) (hA : wl a.2.2.2.1) (hB : wl b.2.2.2.1) (nA : a.2.2.2.1.length ≤ 1073741824) (nB : b.2.2.2.1.length ≤ 1073741824) (h : (rightS a && rightS b) = false) : F_kern_Mul a b = some (noT, 21, ()) := by
  have hb := both_eq a b hA hB nA nB
  unfold F_kern_Mul F_kern_pairs__funcs_Mul
  dsimp only
  simp only [List.take_length]
  rw [show (a.1, a.2.1, a.2.2.1, a.2.2.2.1, ()) = a from rfl, show (b.1, b.2.1, b.2.2.1, b.2.2.2.1, ()) = b from rfl, hb, h]
  rfl
theorem eachr_loop (t : Bool) (R C : Nat) (f g : Int) (A B : List Int) (z : Int × Int × Int × Unit) (hR : R ≤ 4096) (hC : C ≤ 4096) (lA : A.length = R * C) (lB : B.length = R * C) (wA : wl A) (wB : wl B) :
    lim st_annealref13_Each_0 ((t, ((0:Int), ())), (((R : Int), ((C : Int), (f, (A, ())))), (((R : Int), ((C : Int), (g, (B, ())))), (z, (((R : Int), ((C : Int), ((2 : Int), (A.length, ())))), (List.replicate A.length 0, ())))))) =
      some ((), (z, (((R : Int), ((C : Int), ((2 : Int), (A.length, ())))), ((List.range A.length).map (fun i => (if t then mulf else addf) (gl (wideL ((R : Int), (C : Int), f, A, ())) i) (gl (wideL ((R : Int), (C : Int), g, B, ())) i)), ())))) := by
  have hb := rc_bd hR hC
  have wWA := wideL_wl ((R : Int), (C : Int), f, A, ())
  have wWB := wideL_wl ((R : Int), (C : Int), g, B, ())
  have := lim_seq (st := st_annealref13_Each_0) (fun i => ((t, ((i : Int), ())), (((R : Int), ((C : Int), (f, (A, ())))), (((R : Int), ((C : Int), (g, (B, ())))), (z, (((R : Int), ((C : Int), ((2 : Int), (A.length, ())))), (lay1 (fun i => (if t then mulf else addf) (gl (wideL ((R : Int), (C : Int), f, A, ())) i) (gl (wideL ((R : Int), (C : Int), g, B, ())) i)) A.length i, ())))))))
    (b := ((), (z, (((R : Int), ((C : Int), ((2 : Int), (A.length, ())))), ((List.range A.length).map (fun i => (if t then mulf else addf) (gl (wideL ((R : Int), (C : Int), f, A, ())) i) (gl (wideL ((R : Int), (C : Int), g, B, ())) i)), ()))))) A.length
    (fun i hi R' kn ko => by
      have hll := lay1_len (fun i => (if t then mulf else addf) (gl (wideL ((R : Int), (C : Int), f, A, ())) i) (gl (wideL ((R : Int), (C : Int), g, B, ())) i)) (Nat.le_of_lt hi)
      have hls := lay1_set (fun i => (if t then mulf else addf) (gl (wideL ((R : Int), (C : Int), f, A, ())) i) (gl (wideL ((R : Int), (C : Int), g, B, ())) i)) hi
      have e1 := wider_eq ((R : Int), (C : Int), f, A, ()) (i := i) wA hi
      have e2 := wider_eq ((R : Int), (C : Int), g, B, ()) (i := i) wB (by simp only; omega)
      have e3 := radd_eq (wl_get wWA i) (wl_get wWB i)
      have e4 := rmul_eq (wl_get wWA i) (wl_get wWB i)
      unfold st_annealref13_Each_0
      dsimp only at hls ⊢
      generalize lay1 (fun i => (if t then mulf else addf) (gl (wideL ((R : Int), (C : Int), f, A, ())) i) (gl (wideL ((R : Int), (C : Int), g, B, ())) i)) A.length (i + 1) = N at *
      generalize lay1 (fun i => (if t then mulf else addf) (gl (wideL ((R : Int), (C : Int), f, A, ())) i) (gl (wideL ((R : Int), (C : Int), g, B, ())) i)) A.length i = M at *
      simp only [List.take_length, bif_dec, hll, Int.toNat_natCast]
      rw [if_pos (show (i : Int) < (A.length : Int) by omega)]
      rw [show F_annealref13_wide ((R : Int), ((C : Int), (f, (A, ())))) (i : Int) = _ from e1]
      simp only [Option.bind_some]
      rw [show F_annealref13_wide ((R : Int), ((C : Int), (g, (B, ())))) (i : Int) = _ from e2]
      simp only [Option.bind_some]
      cases t
      · rw [cond_false, show F_annealref10_Add _ _ = _ from e3]
        simp only [Option.bind_some]
        rw [if_pos (show 0 ≤ (i : Int) ∧ (i : Int) < (A.length : Int) by omega), if_pos (show 0 + i * 1 < A.length by omega), show 0 + i * 1 = i by omega, wi64 (by omega), show ((i + 1 : Nat) : Int) = (i : Int) + 1 by omega, ← hls]
        rfl
      · rw [cond_true, show F_annealref10_Mul _ _ = _ from e4]
        simp only [Option.bind_some]
        rw [if_pos (show 0 ≤ (i : Int) ∧ (i : Int) < (A.length : Int) by omega), if_pos (show 0 + i * 1 < A.length by omega), show 0 + i * 1 = i by omega, wi64 (by omega), show ((i + 1 : Nat) : Int) = (i : Int) + 1 by omega, ← hls]
        rfl)
    (fun R' kn ko => by
      unfold st_annealref13_Each_0
      dsimp only
      simp only [List.take_length, bif_dec]
      rw [if_neg (show ¬ (A.length : Int) < (A.length : Int) by omega), lay1_all])
  rw [lay1_zero] at this
  exact this
theorem eachr_eq (t : Bool) (a b : TsT) (hA : wl a.2.2.2.1) (hB : wl b.2.2.2.1) (nA : a.2.2.2.1.length ≤ 1073741824) (nB : b.2.2.2.1.length ≤ 1073741824) : F_annealref13_Each a b t = if t then F_kern_Mul a b else F_kern_Add a b := by
  by_cases hr : (rightS a && rightS b) = false
  · rw [(bias_bad a b hA hB nA nB hr).2, mul_bad a b hA hB nA nB hr]
    obtain ⟨a1, a2, f, A, ⟨⟩⟩ := a
    obtain ⟨b1, b2, g, B, ⟨⟩⟩ := b
    simp only at hA hB nA nB
    unfold F_annealref13_Each
    dsimp only
    simp only [List.take_length]
    rw [rightr_eq (a1, a2, f, A, ()) hA (by simp only; omega)]
    simp only [Option.bind_some]
    cases h1 : rightS (a1, a2, f, A, ())
    · cases t <;> rfl
    · rw [h1] at hr
      rw [rightr_eq (b1, b2, g, B, ()) hB (by simp only; omega)]
      simp only [Option.bind_some]
      cases h2 : rightS (b1, b2, g, B, ())
      · cases t <;> rfl
      · rw [h2] at hr; cases hr
  · obtain ⟨a1, a2, f, A, ⟨⟩⟩ := a
    obtain ⟨b1, b2, g, B, ⟨⟩⟩ := b
    simp only at hA hB nA nB
    have hr' : rightS (a1, a2, f, A, ()) = true ∧ rightS (b1, b2, g, B, ()) = true := by simpa using hr
    obtain ⟨R, C, rfl, rfl, hR, hC, lA, _, _⟩ := right_nat hr'.1
    obtain ⟨J, D, rfl, rfl, hJ, hD, lB, _, _⟩ := right_nat hr'.2
    rw [add_ok R C J D f g A B hA hB hr'.1 hr'.2, mul_ok R C J D f g A B hA hB hr'.1 hr'.2]
    unfold F_annealref13_Each
    dsimp only
    simp only [List.take_length]
    rw [rightr_eq _ hA (by simp only; omega), rightr_eq _ hB (by simp only; omega), hr'.1, hr'.2]
    simp only [Option.bind_some, Bool.not_true, cond_false, bif_ne, bif_dec, Int.toNat_natCast]
    by_cases h1 : R = J
    · subst h1
      by_cases h2 : C = D
      · subst h2
        rw [if_pos rfl, if_pos rfl, if_pos (by omega)]
        rw [eachr_loop t R C f g A B _ hR hC lA lB hA hB]
        simp only [Option.bind_some, List.drop_zero]
        rw [List.take_of_length_le (by simp), lA]
        cases t <;> simp only [if_true, if_false, Bool.false_eq_true, and_self]
      · rw [if_pos rfl, if_neg (by omega)]
        cases t <;> simp [h2]
    · rw [if_neg (by omega)]
      cases t <;> simp [h1]
def sumL (X : List Int) (C : Nat) : Nat → List Int
  | 0 => List.replicate C 0
  | i + 1 => (sumL X C i).set (i % C) (addf (gl (sumL X C i) (i % C)) (gl X i))
theorem sumL_len (X : List Int) (C : Nat) : ∀ i, (sumL X C i).length = C
  | 0 => by simp [sumL]
  | i + 1 => by simp [sumL, sumL_len X C i]
theorem sumL_wl (X : List Int) (C : Nat) : ∀ i, wl (sumL X C i)
  | 0 => by intro a ha; simp [sumL] at ha; rw [ha.2]; exact ⟨by decide, by decide⟩
  | i + 1 => by
    intro a ha
    simp only [sumL] at ha
    rcases List.mem_or_eq_of_mem_set ha with h | h
    · exact sumL_wl X C i a h
    · rw [h]; exact addf_w _ _
theorem sums_eq (a : TsT) (hA : wl a.2.2.2.1) (nA : a.2.2.2.1.length ≤ 1073741824) : F_kern_Sums a = F_annealref13_Sums a ∧ ∃ (t : TsT) (e : Int), F_kern_Sums a = some (t, e, ()) ∧ t.2.2.2.1.length < 4611686018427387904 := by
  obtain ⟨a1, a2, f, A, ⟨⟩⟩ := a
  simp only at hA nA
  have hw := wide_eq (a1, a2, f, A, ()) hA nA
  have hr := rightr_eq (a1, a2, f, A, ()) hA (by simp only; omega)
  cases h : rightS (a1, a2, f, A, ())
  · rw [h] at hw hr
    have e1 : F_kern_Sums (a1, a2, f, A, ()) = some (noT, 21, ()) := by
      unfold F_kern_Sums; dsimp only; simp only [List.take_length]; rw [hw]; rfl
    have e2 : F_annealref13_Sums (a1, a2, f, A, ()) = some (noT, 21, ()) := by
      unfold F_annealref13_Sums; dsimp only; simp only [List.take_length]; rw [hr]; rfl
    exact ⟨by rw [e1, e2], _, _, e1, by simp⟩
  · obtain ⟨R, C, rfl, rfl, hR, hC, lA, _, _⟩ := right_nat h
    rw [h] at hw hr
    have lW := wideL_len ((R : Int), (C : Int), f, A, ())
    have wW := wideL_wl ((R : Int), (C : Int), f, A, ())
    simp only at lW
    have hb := rc_bd hR hC
    have hC0 : ∀ i, i < A.length → 0 < C := by
      intro i hi; apply Nat.pos_of_ne_zero; intro e; subst e; simp at lA; simp [lA] at hi
    have p1 : F_kern_Sums ((R : Int), (C : Int), f, A, ()) = some (((1 : Int), (C : Int), 2, sumL (wideL ((R : Int), (C : Int), f, A, ())) C A.length, ()), 0, ()) := by
      have := lim_seq (st := st_kern_Sums_0) (fun i => ((wideL ((R : Int), (C : Int), f, A, ()), ((A.length : Int), ((i : Int), ()))), (((0:Int), ((0:Int), ((0:Int), ()))), (((R : Int), ((C : Int), ((2 : Int), (wideL ((R : Int), (C : Int), f, A, ()), ())))), (((1:Int), ((C : Int), ((2:Int), (C, ())))), (sumL (wideL ((R : Int), (C : Int), f, A, ())) C i, ()))))))
        (b := ((), (((0:Int), ((0:Int), ((0:Int), ()))), (((1:Int), ((C : Int), ((2:Int), (C, ())))), (sumL (wideL ((R : Int), (C : Int), f, A, ())) C A.length, ()))))) A.length
        (fun i hi R' kn ko => by
          have hc := hC0 i hi
          have hm := Nat.mod_lt i hc
          have hz : ((C : Int) == 0) = false := beq_false_of_ne (by omega)
          have ht : Int.tmod (i : Int) (C : Int) = ((i % C : Nat) : Int) := by rw [tmod_nn (by omega)]; simp
          have hll := sumL_len (wideL ((R : Int), (C : Int), f, A, ())) C i
          have e3 := fadd_eq (wl_get (sumL_wl (wideL ((R : Int), (C : Int), f, A, ())) C i) (i % C)) (wl_get wW i)
          unfold st_kern_Sums_0
          dsimp only
          simp only [List.take_length]
          simp only [bif_dec, lW, hz, ht, Int.toNat_natCast, hll, cond_false, show 0 + i % C * 1 = i % C by omega]
          rw [if_pos (show (i : Int) < (A.length : Int) by omega), if_pos (by omega), if_pos (by omega), if_pos hm, show F_funcs_Add _ _ = _ from e3]
          simp only [Option.bind_some]
          rw [if_pos (by omega), if_pos hm, wi64 (by omega), show ((i + 1 : Nat) : Int) = (i : Int) + 1 by omega]
          rfl)
        (fun R' kn ko => by
          unfold st_kern_Sums_0
          dsimp only
          simp only [List.take_length, bif_dec]
          rw [if_neg (show ¬ (A.length : Int) < (A.length : Int) by omega)])
      unfold F_kern_Sums
      dsimp only
      simp only [List.take_length]
      rw [hw]
      simp only [Option.bind_some, if_true, bif_ne, bif_dec, List.take_length, Int.toNat_natCast]
      simp only [lW]
      rw [if_pos (by omega)]
      have e : lim st_kern_Sums_0 ((wideL ((R : Int), (C : Int), f, A, ()), ((A.length : Int), ((0 : Int), ()))), (((0:Int), ((0:Int), ((0:Int), ()))), (((R : Int), ((C : Int), ((2 : Int), (wideL ((R : Int), (C : Int), f, A, ()), ())))), (((1:Int), ((C : Int), ((2:Int), (C, ())))), (List.replicate C 0, ()))))) = _ := this
      rw [e]
      simp only [Option.bind_some, List.drop_zero]
      rw [List.take_of_length_le (by rw [sumL_len]; exact Nat.le_refl _)]
    have p2 : F_annealref13_Sums ((R : Int), (C : Int), f, A, ()) = some (((1 : Int), (C : Int), 2, sumL (wideL ((R : Int), (C : Int), f, A, ())) C A.length, ()), 0, ()) := by
      have := lim_seq (st := st_annealref13_Sums_0) (fun i => (((i : Int), ()), (((R : Int), ((C : Int), (f, (A, ())))), (((0:Int), ((0:Int), ((0:Int), ()))), (((1:Int), ((C : Int), ((2:Int), (C, ())))), (sumL (wideL ((R : Int), (C : Int), f, A, ())) C i, ()))))))
        (b := ((), (((0:Int), ((0:Int), ((0:Int), ()))), (((1:Int), ((C : Int), ((2:Int), (C, ())))), (sumL (wideL ((R : Int), (C : Int), f, A, ())) C A.length, ()))))) A.length
        (fun i hi R' kn ko => by
          have hc := hC0 i hi
          have hm := Nat.mod_lt i hc
          have hz : ((C : Int) == 0) = false := beq_false_of_ne (by omega)
          have ht : Int.tmod (i : Int) (C : Int) = ((i % C : Nat) : Int) := by rw [tmod_nn (by omega)]; simp
          have hll := sumL_len (wideL ((R : Int), (C : Int), f, A, ())) C i
          have e1 := wider_eq ((R : Int), (C : Int), f, A, ()) (i := i) hA hi
          have e3 := radd_eq (wl_get (sumL_wl (wideL ((R : Int), (C : Int), f, A, ())) C i) (i % C)) (wl_get wW i)
          unfold st_annealref13_Sums_0
          dsimp only
          simp only [List.take_length, bif_dec, hz, ht, Int.toNat_natCast, hll, cond_false, show 0 + i % C * 1 = i % C by omega]
          rw [if_pos (show (i : Int) < (A.length : Int) by omega), if_pos (by omega), if_pos hm]
          rw [show F_annealref13_wide ((R : Int), ((C : Int), (f, (A, ())))) (i : Int) = _ from e1]
          simp only [Option.bind_some]
          rw [show F_annealref10_Add _ _ = _ from e3]
          simp only [Option.bind_some]
          rw [if_pos (by omega), if_pos hm, wi64 (by omega), show ((i + 1 : Nat) : Int) = (i : Int) + 1 by omega]
          rfl)
        (fun R' kn ko => by
          unfold st_annealref13_Sums_0
          dsimp only
          simp only [List.take_length, bif_dec]
          rw [if_neg (show ¬ (A.length : Int) < (A.length : Int) by omega)])
      unfold F_annealref13_Sums
      dsimp only
      simp only [List.take_length]
      rw [hr]
      simp only [Option.bind_some, Bool.not_true, cond_false, bif_dec, Int.toNat_natCast]
      rw [if_pos (by omega)]
      have e : lim st_annealref13_Sums_0 (((0 : Int), ()), (((R : Int), ((C : Int), (f, (A, ())))), (((0:Int), ((0:Int), ((0:Int), ()))), (((1:Int), ((C : Int), ((2:Int), (C, ())))), (List.replicate C 0, ()))))) = _ := this
      rw [e]
      simp only [Option.bind_some, List.drop_zero]
      rw [List.take_of_length_le (by rw [sumL_len]; exact Nat.le_refl _)]
    exact ⟨by rw [p1, p2], _, _, p1, by simp only; rw [sumL_len]; omega⟩
end Go.Proofs.YtkknnloamidaiaaGreat.VI

namespace Go.Proofs.YtkknnloamidaiaaGreat.VI
set_option linter.unusedVariables false
set_option linter.unusedSimpArgs false
set_option linter.unusedSimpArgs false
set_option linter.unusedVariables false
set_option maxRecDepth 100000
set_option maxHeartbeats 8000000
theorem by_eq (a : TsT) (v : Int) (hv : w32 v) (hA : wl a.2.2.2.1) (nA : a.2.2.2.1.length ≤ 1073741824) : F_kern_By a v = F_annealref13_By a v ∧ ∃ (t : TsT) (e : Int), F_kern_By a v = some (t, e, ()) ∧ t.2.2.2.1.length < 4611686018427387904 := by
  obtain ⟨a1, a2, f, A, ⟨⟩⟩ := a
  simp only at hA nA
  have hw := wide_eq (a1, a2, f, A, ()) hA nA
  have hr := rightr_eq (a1, a2, f, A, ()) hA (by simp only; omega)
  cases h : rightS (a1, a2, f, A, ())
  · rw [h] at hw hr
    have e1 : F_kern_By (a1, a2, f, A, ()) v = some (noT, 21, ()) := by
      unfold F_kern_By; dsimp only; simp only [List.take_length]; rw [hw]; rfl
    have e2 : F_annealref13_By (a1, a2, f, A, ()) v = some (noT, 21, ()) := by
      unfold F_annealref13_By; dsimp only; simp only [List.take_length]; rw [hr]; rfl
    exact ⟨by rw [e1, e2], _, _, e1, by simp⟩
  · obtain ⟨R, C, rfl, rfl, hR, hC, lA, _, _⟩ := right_nat h
    rw [h] at hw hr
    have lW := wideL_len ((R : Int), (C : Int), f, A, ())
    have wW := wideL_wl ((R : Int), (C : Int), f, A, ())
    simp only at lW
    have hb := rc_bd hR hC
    have p1 : F_kern_By ((R : Int), (C : Int), f, A, ()) v = some (((R : Int), (C : Int), 2, (List.range A.length).map (fun i => mulf (gl (wideL ((R : Int), (C : Int), f, A, ())) i) v), ()), 0, ()) := by
      unfold F_kern_By
      dsimp only
      simp only [List.take_length]
      rw [hw]
      simp only [Option.bind_some, if_true, bif_ne, List.take_length]
      generalize wideL ((R : Int), (C : Int), f, A, ()) = X at *
      have := lim_seq (st := st_tensor_Each__kern_Byc1_0) (fun i => ((X, ((X.length : Int), ((i : Int), ()))), ([v], (((0:Int), ((0:Int), ((0:Int), ()))), (((R : Int), ((C : Int), ((2 : Int), (X.length, ())))), (lay1 (fun i => mulf (gl X i) v) X.length i, ()))))))
        (b := ((), ([v], (((0:Int), ((0:Int), ((0:Int), ()))), (((R : Int), ((C : Int), ((2 : Int), (X.length, ())))), (lay1 (fun i => mulf (gl X i) v) X.length X.length, ())))))) X.length
        (fun i hi R' kn ko => by
          have hll := lay1_len (fun i => mulf (gl X i) v) (Nat.le_of_lt hi)
          have hls := lay1_set (fun i => mulf (gl X i) v) hi
          have e3 := fmul_eq (wl_get wW i) hv
          unfold st_tensor_Each__kern_Byc1_0 F_kern_Byc1
          dsimp only at hls ⊢
          simp only [List.take_length, bif_dec, hll, Int.toNat_natCast]
          rw [if_pos (show (i : Int) < (X.length : Int) by omega), if_pos (by omega), if_pos (show 0 < [v].length by simp)]
          rw [show F_funcs_Mul (X.getD i 0) (List.getD [v] 0 0) = _ from e3]
          simp only [Option.bind_some]
          rw [if_pos (show 0 ≤ (i : Int) ∧ (i : Int) < (X.length : Int) by omega), if_pos (show 0 + i * 1 < X.length by omega), show 0 + i * 1 = i by omega, wi64 (by omega), show ((i + 1 : Nat) : Int) = (i : Int) + 1 by omega]
          rw [show (lay1 (fun i => mulf (gl X i) v) X.length i).set i (mulf (X.getD i 0) v) = _ from hls])
        (fun R' kn ko => by
          unfold st_tensor_Each__kern_Byc1_0
          dsimp only
          simp only [List.take_length, bif_dec]
          rw [if_neg (show ¬ (X.length : Int) < (X.length : Int) by omega)])
      rw [lay1_zero] at this
      unfold F_tensor_Each__kern_Byc1
      dsimp only
      simp only [List.take_length, bif_dec, Int.toNat_natCast]
      rw [if_pos (by omega)]
      have e : lim st_tensor_Each__kern_Byc1_0 ((X, ((X.length : Int), ((0 : Int), ()))), ([v], (((0:Int), ((0:Int), ((0:Int), ()))), (((R : Int), ((C : Int), ((2 : Int), (X.length, ())))), (List.replicate X.length 0, ()))))) = _ := this
      rw [e]
      simp only [Option.bind_some, List.drop_zero, lay1_all, List.take_length]
      rw [List.take_of_length_le (by simp), lW]
    have p2 : F_annealref13_By ((R : Int), (C : Int), f, A, ()) v = some (((R : Int), (C : Int), 2, (List.range A.length).map (fun i => mulf (gl (wideL ((R : Int), (C : Int), f, A, ())) i) v), ()), 0, ()) := by
      have := lim_seq (st := st_annealref13_By_0) (fun i => ((v, ((i : Int), ())), (((R : Int), ((C : Int), (f, (A, ())))), (((0:Int), ((0:Int), ((0:Int), ()))), (((R : Int), ((C : Int), ((2 : Int), (A.length, ())))), (lay1 (fun i => mulf (gl (wideL ((R : Int), (C : Int), f, A, ())) i) v) A.length i, ()))))))
        (b := ((), (((0:Int), ((0:Int), ((0:Int), ()))), (((R : Int), ((C : Int), ((2 : Int), (A.length, ())))), (lay1 (fun i => mulf (gl (wideL ((R : Int), (C : Int), f, A, ())) i) v) A.length A.length, ()))))) A.length
        (fun i hi R' kn ko => by
          have hll := lay1_len (fun i => mulf (gl (wideL ((R : Int), (C : Int), f, A, ())) i) v) (Nat.le_of_lt hi)
          have hls := lay1_set (fun i => mulf (gl (wideL ((R : Int), (C : Int), f, A, ())) i) v) hi
          have e1 := wider_eq ((R : Int), (C : Int), f, A, ()) (i := i) hA hi
          have e3 := rmul_eq (wl_get wW i) hv
          unfold st_annealref13_By_0
          dsimp only at hls ⊢
          simp only [List.take_length, bif_dec, hll, Int.toNat_natCast]
          rw [if_pos (show (i : Int) < (A.length : Int) by omega)]
          rw [show F_annealref13_wide ((R : Int), ((C : Int), (f, (A, ())))) (i : Int) = _ from e1]
          simp only [Option.bind_some]
          rw [show F_annealref10_Mul _ v = _ from e3]
          simp only [Option.bind_some]
          rw [if_pos (show 0 ≤ (i : Int) ∧ (i : Int) < (A.length : Int) by omega), if_pos (show 0 + i * 1 < A.length by omega), show 0 + i * 1 = i by omega, wi64 (by omega), show ((i + 1 : Nat) : Int) = (i : Int) + 1 by omega]
          rw [show (lay1 (fun i => mulf (gl (wideL ((R : Int), (C : Int), f, A, ())) i) v) A.length i).set i (mulf ((wideL ((R : Int), (C : Int), f, A, ())).getD i 0) v) = _ from hls])
        (fun R' kn ko => by
          unfold st_annealref13_By_0
          dsimp only
          simp only [List.take_length, bif_dec]
          rw [if_neg (show ¬ (A.length : Int) < (A.length : Int) by omega)])
      rw [lay1_zero] at this
      unfold F_annealref13_By
      dsimp only
      simp only [List.take_length, Int.toNat_natCast]
      rw [hr]
      simp only [Option.bind_some, Bool.not_true, cond_false, bif_dec]
      rw [if_pos (by omega)]
      have e : lim st_annealref13_By_0 ((v, ((0 : Int), ())), (((R : Int), ((C : Int), (f, (A, ())))), (((0:Int), ((0:Int), ((0:Int), ()))), (((R : Int), ((C : Int), ((2 : Int), (A.length, ())))), (List.replicate A.length 0, ()))))) = _ := this
      rw [e]
      simp only [Option.bind_some, List.drop_zero, lay1_all]
      rw [List.take_of_length_le (by simp)]
    exact ⟨by rw [p1, p2], _, _, p1, by simp; omega⟩
theorem pair_some (a b : TsT) (hA : wl a.2.2.2.1) (hB : wl b.2.2.2.1) (nA : a.2.2.2.1.length ≤ 1073741824) (nB : b.2.2.2.1.length ≤ 1073741824) :
    (∃ (t : TsT) (e : Int), F_kern_Bias a b = some (t, e, ()) ∧ t.2.2.2.1.length < 4611686018427387904) ∧ (∃ (t : TsT) (e : Int), F_kern_Add a b = some (t, e, ()) ∧ t.2.2.2.1.length < 4611686018427387904) ∧ (∃ (t : TsT) (e : Int), F_kern_Mul a b = some (t, e, ()) ∧ t.2.2.2.1.length < 4611686018427387904) := by
  by_cases hr : (rightS a && rightS b) = false
  · have h1 := bias_bad a b hA hB nA nB hr
    have h2 := mul_bad a b hA hB nA nB hr
    exact ⟨⟨_, _, h1.1, by simp⟩, ⟨_, _, h1.2, by simp⟩, ⟨_, _, h2, by simp⟩⟩
  · obtain ⟨a1, a2, f, A, ⟨⟩⟩ := a
    obtain ⟨b1, b2, g, B, ⟨⟩⟩ := b
    simp only at hA hB nA nB
    have hr' : rightS (a1, a2, f, A, ()) = true ∧ rightS (b1, b2, g, B, ()) = true := by simpa using hr
    obtain ⟨R, C, rfl, rfl, hR, hC, lA, _, _⟩ := right_nat hr'.1
    obtain ⟨J, D, rfl, rfl, hJ, hD, lB, _, _⟩ := right_nat hr'.2
    have hb := rc_bd hR hC
    rw [bias_ok R C J D f g A B hA hB hr'.1 hr'.2, add_ok R C J D f g A B hA hB hr'.1 hr'.2, mul_ok R C J D f g A B hA hB hr'.1 hr'.2]
    refine ⟨?_, ?_, ?_⟩
    all_goals
      split
      · exact ⟨_, _, rfl, by simp; omega⟩
      · exact ⟨_, _, rfl, by simp⟩
end Go.Proofs.YtkknnloamidaiaaGreat.VI

namespace Go.Proofs.YtkknnloamidaiaaGreat.VI
set_option linter.unusedVariables false
set_option linter.unusedSimpArgs false
set_option linter.unusedSimpArgs false
set_option linter.unusedVariables false
set_option maxRecDepth 100000
set_option maxHeartbeats 8000000
noncomputable def cmpT (x y : TsT × Int × Unit) (K : Option Bool) : Option Bool :=
  bif (x.2.1 != y.2.1) then
    (some false)
  else
    (F_annealhelp_Tensor (tk x.1) (tk y.1)).bind fun r =>
    bif (!r) then
      (some false)
    else K
noncomputable def PB (a b : TsT) (v : Int) (K : Option Bool) : Option Bool :=
  (F_kern_Bias (tk a) (tk b)).bind fun r20 =>
  (F_annealref13_Bias (tk a) (tk b)).bind fun r24 =>
  (F_kern_Sums (tk a)).bind fun r28 =>
  (F_annealref13_Sums (tk a)).bind fun r32 =>
  (F_kern_Add (tk a) (tk b)).bind fun r36 =>
  (F_annealref13_Each (tk a) (tk b) false).bind fun r40 =>
  (F_kern_Mul (tk a) (tk b)).bind fun r44 =>
  (F_annealref13_Each (tk a) (tk b) true).bind fun r48 =>
  (F_kern_By (tk a) v).bind fun r52 =>
  (F_annealref13_By (tk a) v).bind fun r56 =>
  cmpT r20 r24 <| cmpT r28 r32 <| cmpT r36 r40 <| cmpT r44 r48 <| cmpT r52 r56 K
theorem cmpT_ok (t : TsT) (e : Int) (K : Option Bool) (h : t.2.2.2.1.length < 4611686018427387904) : cmpT (t, e, ()) (t, e, ()) K = K := by
  unfold cmpT
  simp only [tk_id]
  rw [tens_eq t t h]
  simp
theorem pb_ok (a b : TsT) (v : Int) (K : Option Bool) (hv : w32 v) (hA : wl a.2.2.2.1) (hB : wl b.2.2.2.1) (nA : a.2.2.2.1.length ≤ 1073741824) (nB : b.2.2.2.1.length ≤ 1073741824) : PB a b v K = K := by
  obtain ⟨⟨t1, e1, h1, l1⟩, ⟨t2, e2, h2, l2⟩, ⟨t3, e3, h3, l3⟩⟩ := pair_some a b hA hB nA nB
  obtain ⟨s1, t4, e4, h4, l4⟩ := sums_eq a hA nA
  obtain ⟨s2, t5, e5, h5, l5⟩ := by_eq a v hv hA nA
  unfold PB
  simp only [tk_id]
  rw [biasr_eq a b hA hB nA nB, ← s1, ← s2, eachr_eq false a b hA hB nA nB, eachr_eq true a b hA hB nA nB]
  simp only [if_true, if_false, Bool.false_eq_true]
  rw [h1, h2, h3, h4, h5]
  simp only [Option.bind_some]
  rw [cmpT_ok _ _ _ l1, cmpT_ok _ _ _ l4, cmpT_ok _ _ _ l2, cmpT_ok _ _ _ l3, cmpT_ok _ _ _ l5]
theorem kernParts (a b : TsT) {m n f g v : Int} (l r : List Int) (hA : wl a.2.2.2.1) (hB : wl b.2.2.2.1) (hm : 0 ≤ m) (hn : 0 ≤ n) (hv : w32 v) :
    F_anneallaw14_KernParts a b m n f g l r v = some true := by
  have un : F_anneallaw14_KernParts a b m n f g l r v =
    F_anneallaw14_known.bind fun r11 =>
    bif (!r11) then (some false) else
    (F_annealhelp_Light (tk a)).bind fun r12 =>
    bif (!r12) then (some true) else
    (F_annealhelp_Light (tk b)).bind fun r13 =>
    bif (!r13) then (some true) else
    bif (decide ((((List.length l) : Nat) : Int) > (30:Int))) then (some true) else
    bif (decide ((((List.length r) : Nat) : Int) > (30:Int))) then (some true) else
    (F_annealseat_Tensor (IntKind.wrap .i64 (Int.tmod m (5:Int))) (IntKind.wrap .i64 (Int.tmod n (5:Int))) (IntKind.wrap .i64 (Int.tmod f (3:Int))) (List.take (List.length l) l) ((Int.tmod v (2:Int)) == (0:Int))).bind fun r14 =>
    (F_annealseat_Tensor (1:Int) (IntKind.wrap .i64 (Int.tmod n (5:Int))) (IntKind.wrap .i64 (Int.tmod g (3:Int))) (List.take (List.length r) r) true).bind fun r17 =>
    (F_annealseat_Tensor (IntKind.wrap .i64 (Int.tmod m (5:Int))) (IntKind.wrap .i64 (Int.tmod n (5:Int))) (IntKind.wrap .i64 (Int.tmod g (3:Int))) (List.take (List.length r) r) false).bind fun r20 =>
    PB a b v <| PB r14 r17 v <| PB r14 r20 v <| PB a r14 v <| some true := by kernel_rfl
  rw [un, known14]
  simp only [tk_id, Option.bind_some, Bool.not_true, cond_false, bif_dec, List.take_length]
  obtain ⟨x, hx⟩ := light_some a
  obtain ⟨y, hy⟩ := light_some b
  rw [hx, hy]
  simp only [Option.bind_some]
  cases x
  · rfl
  cases y
  · rfl
  have la := light_len hx
  have lb := light_len hy
  simp only [Bool.not_true, cond_false]
  by_cases ll : (((l.length : Nat) : Int) > 30)
  · rw [if_pos ll]
  by_cases lr : (((r.length : Nat) : Int) > 30)
  · rw [if_neg ll, if_pos lr]
  rw [if_neg ll, if_neg lr]
  obtain ⟨M, eM, hM⟩ := tmod5 hm
  obtain ⟨N, eN, hN⟩ := tmod5 hn
  rw [eM, eN]
  generalize IntKind.wrap .i64 (Int.tmod f 3) = f'
  generalize IntKind.wrap .i64 (Int.tmod g 3) = g'
  generalize (Int.tmod v 2 == 0) = mm
  obtain ⟨V1, h1, l1, w1, _⟩ := seatT M N f' l mm (by omega) (by omega) (by omega)
  obtain ⟨V2, h2, l2, w2, _⟩ := seatT 1 N g' r true (by omega) (by omega) (by omega)
  obtain ⟨V3, h3, l3, w3, _⟩ := seatT M N g' r false (by omega) (by omega) (by omega)
  rw [h1, show F_annealseat_Tensor 1 (N : Int) g' r true = _ from h2, h3]
  simp only [Option.bind_some]
  have b1 := rc_bd (show M ≤ 4096 by omega) (show N ≤ 4096 by omega)
  rw [pb_ok a b v _ hv hA hB (by omega) (by omega), pb_ok _ _ v _ hv (wf_wl w1) (wf_wl w2) (by simp only; omega) (by simp only; omega), pb_ok _ _ v _ hv (wf_wl w1) (wf_wl w3) (by simp only; omega) (by simp only; omega), pb_ok _ _ v _ hv hA (wf_wl w1) (by omega) (by simp only; omega)]
theorem callKernParts : ∀ l, args [.pair (.i .i64) (.pair (.i .i64) (.pair (.i .i64) (.pair (.ints .u32) (.unit)))), .pair (.i .i64) (.pair (.i .i64) (.pair (.i .i64) (.pair (.ints .u32) (.unit)))), .i .u8, .i .u8, .i .u8, .i .u8, .ints .u32, .ints .u32, .i .u32] l → oks l → CallOk PR i_anneallaw14_KernParts l [] fun r _ => r = .b true :=
  rowT (fa := fa_anneallaw14_KernParts) (F := G_anneallaw14_KernParts) rfl rfl ok_anneallaw14_KernParts (enters p_anneallaw14_KernParts (by kernel_rfl) (by kernel_rfl)) rfl fun x hx =>
    kernParts _ _ _ _ (wl_ok hx.1.2.2.2.1.2) (wl_ok hx.2.1.2.2.2.1.2) hx.2.2.1.1 hx.2.2.2.1.1 ⟨hx.2.2.2.2.2.2.2.2.1.1, Int.lt_add_one_of_le hx.2.2.2.2.2.2.2.2.1.2⟩
end Go.Proofs.YtkknnloamidaiaaGreat.VI

namespace Go.Proofs.YtkknnloamidaiaaGreat.VI
set_option linter.unusedVariables false
set_option linter.unusedSimpArgs false
open Go.ChangeShapes Go.WideShapes Go.RowKit Go.WideElems YtkknnloamidaiaaGreat
set_option maxRecDepth 100000
theorem laid : laidOutB Tryz.prog = true := by kernel_rfl
theorem own : ownKnob Tryz.prog.godebug = none := by kernel_rfl
theorem lifted (os : Os) (started : os.Started) (H : Type) (enc : TypeId × Value → H) :
    ReturnsInHanded {} Tryz.checked os 5 .any (Rows.kernPartsSpec.pre6 enc Tryz.prog Tryz.f5 Rows.kernPartsRow.domain false) (Rows.kernPartsSpec.post enc Tryz.prog Tryz.f5 false true false false) :=
  lift_args (C := Tryz.checked) own started (by kernel_rfl) Tryz.func5
    (ChangeSpec.witness6 (enc := enc) (C := Tryz.checked) false ⟨#[], #[.agg #[.int .i64 0, .int .i64 0, .int .i64 0, .slice none 0 0], .agg #[.int .i64 0, .int .i64 0, .int .i64 0, .slice none 0 0], .int .u8 0, .int .u8 0, .int .u8 0, .int .u8 0, .slice none 0 0, .slice none 0 0, .int .u32 0], []⟩ 8 (by kernel_rfl) (by kernel_rfl) (by kernel_rfl) (by kernel_rfl))
    laid Tryz.underlying4 rfl (by kernel_rfl) rfl (fun ds hd => match ds, hd with
    | [_, _, _, _, _, _, _, _, _], _ => rfl) (d := 6) (by kernel_rfl) (Fs := [.pair (.i .i64) (.pair (.i .i64) (.pair (.i .i64) (.pair (.ints .u32) (.unit)))), .pair (.i .i64) (.pair (.i .i64) (.pair (.i .i64) (.pair (.ints .u32) (.unit)))), .i .u8, .i .u8, .i .u8, .i .u8, .ints .u32, .ints .u32, .i .u32]) (by kernel_rfl) callKernParts
theorem over : Rows.kernPartsRow.holds Tryz.pinned (OpenSpec.ofChange Rows.kernPartsSpec) :=
  OpenClaim.holds_of_wide 5 Tryz.f5 rfl rfl rfl rfl rfl rfl rfl ⟨rfl, rfl, rfl, rfl, rfl⟩ rfl rfl rfl rfl rfl (by kernel_rfl) Tryz.func5 (by kernel_rfl)
    (of_decide_eq_true (by kernel_rfl)) (by unfold Func.isWrapper; first | (rw [if_pos (by decide +kernel)]; kernel_rfl) | (rw [if_neg (by decide +kernel)]; exact ⟨rfl, rfl⟩))
    (fun os started H enc _ => lifted os started H enc)
end Go.Proofs.YtkknnloamidaiaaGreat.VI
