import Derived.Test.YtkknnloamidaiaaT6ae3552e
import Derived.Test.YtkknnloamidaiaaRows
import Derived.WalkKit
import Derived.ProofKit
namespace Go.Proofs.Ytkknnloamidaiaa.VI
set_option linter.unusedVariables false
set_option linter.unusedSimpArgs false
set_option linter.unusedSimpArgs false
set_option linter.unusedVariables false
set_option maxRecDepth 100000
set_option maxHeartbeats 4000000
def mildP (f v : Int) : Prop := nan f v = false ∧ inff f v = false ∧ (v % TT f = 0 → v = 0)
theorem mild_p {k : Int} (f : Int) (h : w32 k) : ∃ v, F_annealseat_Mild f k = some v ∧ wf f v ∧ mildP f v := by
  have fb := fmt_bd f
  unfold F_annealseat_Mild
  rw [bif_eq]
  by_cases h0 : Int.tmod k 7 = 0
  · rw [if_pos h0]; refine ⟨0, rfl, ⟨by omega, by omega⟩, ?_⟩
    have ib := IN_bd f
    refine ⟨?_, ?_, fun _ => rfl⟩
    · unfold nan; rw [Int.zero_emod]; exact decide_eq_false (by omega)
    · unfold inff; rw [Int.zero_emod]; exact decide_eq_false (by omega)
  rw [if_neg h0, zeror_w, ← widr_nf f]
  have key : ∀ (x : Int), 0 < x → x < IN f → (x % (TT f) = x ∧ (TT f + x) % TT f = x) := by
    intro x h1 h2
    have ib := IN_bd f
    refine ⟨Int.emod_eq_of_lt (by omega) (by omega), ?_⟩
    rw [Int.add_comm, Int.add_emod_right]; exact Int.emod_eq_of_lt (by omega) (by omega)
  have fin : ∀ (x : Int), 0 < x → x < IN f → ∃ v, (bif (bits .and .u32 k 1 == 1) then some (bits .or .u32 x (sgn f true)) else some x) = some v ∧ wf f v ∧ mildP f v := by
    intro x h1 h2
    have ib := IN_bd f
    have kx := key x h1 h2
    cases bits .and .u32 k 1 == 1
    · refine ⟨x, rfl, ⟨by omega, by omega⟩, ?_, ?_, ?_⟩
      · unfold nan; rw [kx.1]; simp; omega
      · unfold inff; rw [kx.1]; simp; omega
      · rw [kx.1]; intro q; exact q
    · have e : bits .or .u32 x (sgn f true) = TT f + x := by
        rw [or_comm32, sgn_or f true ⟨by omega, by omega⟩]; unfold sgn; simp
      refine ⟨TT f + x, by rw [e]; rfl, ⟨by omega, by omega⟩, ?_, ?_, ?_⟩
      · unfold nan; rw [kx.2]; simp; omega
      · unfold inff; rw [kx.2]; simp; omega
      · rw [kx.2]; intro q; omega
  have hd : Int.tmod (k / 8) 4096 = k / 8 % 4096 ∧ Int.tmod (k / 8) 512 = k / 8 % 512 ∧ Int.tmod (k / 8) 33554432 = k / 8 % 33554432 := by
    have : 0 ≤ k / 8 := by have := h.1; omega
    exact ⟨tmod_nn this, tmod_nn this, tmod_nn this⟩
  have hI : IN f = (RR f - 1) * BB f := rfl
  rw [← nf_RR f, ← nf_BB f] at hI
  rcases nf_cases f with e | e | e <;> rw [e] at hI ⊢
  · have hI2 : IN f = 31744 := hI
    have := fin (IntKind.wrap .u32 (13312 + Int.tmod (k / 8) 4096)) (by rw [hd.1, wu32 (by omega)]; omega) (by rw [hd.1, wu32 (by omega)]; omega)
    exact this
  · have hI2 : IN f = 32640 := hI
    have := fin (IntKind.wrap .u32 (16000 + Int.tmod (k / 8) 512)) (by rw [hd.2.1, wu32 (by omega)]; omega) (by rw [hd.2.1, wu32 (by omega)]; omega)
    exact this
  · have hI2 : IN f = 2139095040 := hI
    have := fin (IntKind.wrap .u32 (1048576000 + Int.tmod (k / 8) 33554432)) (by rw [hd.2.2, wu32 (by omega)]; omega) (by rw [hd.2.2, wu32 (by omega)]; omega)
    exact this
theorem num_wf (f : Int) {k : Int} (h : w32 k) : ∃ v, F_annealseat_Num f k = some v ∧ wf f v := by
  unfold F_annealseat_Num
  rw [maskr_eq, zeror_w, ← widr_nf f]
  have h15 : (0:Int) ≤ Int.tmod k 15 ∧ Int.tmod k 15 < 15 := by rw [tmod_nn h.1]; omega
  have o : ∀ y, wf f (bits .or .u32 (bits .and .u32 y (2 * TT f - 1)) (sgn f true)) := fun y => by
    have := or_top_bd f y
    unfold sgn; exact this
  rcases nf_cases f with e | e | e <;> rw [e]
  all_goals
    show ∃ v, (bif decide ((0:Int) ≤ Int.tmod k 15 ∧ Int.tmod k 15 < 15) then (bif decide ((0:Nat) + (Int.toNat (Int.tmod k 15)) * 1 < 15) then (bif (k / 2147483648 == 1) then some (bits .or .u32 (bits .and .u32 _ (2 * TT f - 1)) (sgn f true)) else some (bits .and .u32 _ (2 * TT f - 1))) else none) else none) = some v ∧ wf f v
    rw [bif_dec, if_pos h15, bif_dec, if_pos (by omega)]
    cases k / 2147483648 == 1
    · exact ⟨_, rfl, and_mask_bd f _⟩
    · exact ⟨_, rfl, o _⟩
theorem wrap_w (n : Int) : w32 (IntKind.wrap .u32 n) := by rw [wu32_eq]; exact ⟨by omega, by omega⟩
theorem seatT (R C : Nat) (f : Int) (l : List Int) (m : Bool) (hR : R ≤ 4096) (hC : C ≤ 4096) (hl : l.length < 4611686018427387904) :
    ∃ V, F_annealseat_Tensor (R : Int) (C : Int) f l m = some ((R : Int), (C : Int), f, V, ()) ∧ V.length = R * C ∧ (∀ v ∈ V, wf f v) ∧ (m = true → ∀ v ∈ V, mildP f v) := by
  have hb := rc_bd hR hC
  have hRC : ((R : Int) * (C : Int)) = ((R * C : Nat) : Int) := by simp
  obtain ⟨r, hr, V, hr2, lV, wV, mV⟩ := lim_post (st := st_annealseat_Tensor_0)
    (fun v => ∃ (i : Nat) (V : List Int), v = (((R : Int), ((C : Int), (f, (l, (m, ((i : Int), ())))))), (((0:Int), ((0:Int), ((0:Int), ()))), (((R : Int), ((C : Int), (f, ((i : Nat), ())))), (V, ())))) ∧ i ≤ R * C ∧ V.length = i ∧ (∀ v ∈ V, wf f v) ∧ (m = true → ∀ v ∈ V, mildP f v))
    (fun v => R * C + 1 - v.2.2.1.2.2.2.1)
    (fun r => ∃ (V : List Int), r = ((), (((0:Int), ((0:Int), ((0:Int), ()))), (((R : Int), ((C : Int), (f, ((R * C : Nat), ())))), (V, ())))) ∧ V.length = R * C ∧ (∀ v ∈ V, wf f v) ∧ (m = true → ∀ v ∈ V, mildP f v))
    (fun v hv => by
      obtain ⟨i, V, rfl, h1, h2, h3, h4⟩ := hv
      by_cases hi : i < R * C
      · left
        have h30 : i + 1 ≤ 1073741824 := by omega
        have stp : ∃ v, (∀ R' kn ko, st_annealseat_Tensor_0 R' (((R : Int), ((C : Int), (f, (l, (m, ((i : Int), ())))))), (((0:Int), ((0:Int), ((0:Int), ()))), (((R : Int), ((C : Int), (f, ((i : Nat), ())))), (V, ())))) kn ko = kn (((R : Int), ((C : Int), (f, (l, (m, (((i + 1 : Nat) : Int), ())))))), (((0:Int), ((0:Int), ((0:Int), ()))), (((R : Int), ((C : Int), (f, ((i + 1 : Nat), ())))), (V ++ [v], ()))))) ∧ wf f v ∧ (m = true → mildP f v) := by
          by_cases hl0 : ((l.length : Nat) : Int) > 0
          · have ht : 0 ≤ Int.tmod (i : Int) ((l.length : Nat) : Int) ∧ Int.tmod (i : Int) ((l.length : Nat) : Int) < ((l.length : Nat) : Int) := by
              rw [tmod_nn (by omega)]; exact ⟨Int.emod_nonneg _ (by omega), Int.emod_lt_of_pos _ hl0⟩
            have hz : (((l.length : Nat) : Int) == 0) = false := beq_false_of_ne (by omega)
            cases m
            · obtain ⟨v, hv, hw⟩ := num_wf f  (k := (IntKind.wrap .u32 ((List.getD l (Int.toNat (Int.tmod (i : Int) ((l.length : Nat) : Int))) (0:Int)) + (IntKind.wrap .u32 ((IntKind.wrap .u32 (IntKind.wrap .i64 (Int.tdiv (i : Int) ((l.length : Nat) : Int)))) * (40503:Int)))))) (wrap_w _)
              refine ⟨v, fun R' kn ko => ?_, hw, fun h => by cases h⟩
              unfold st_annealseat_Tensor_0
              dsimp only
              simp only [List.take_length, bif_dec, hz, hRC]
              rw [wi64 (n := ((R * C : Nat) : Int)) (by omega), if_pos (show (i : Int) < ((R * C : Nat) : Int) by omega), if_pos hl0, cond_false, if_pos ht, cond_false, cond_false, hv, wi64 (n := (i : Int) + 1) (by omega), show ((i + 1 : Nat) : Int) = (i : Int) + 1 by omega]
              rw [List.take_of_length_le (show V.length ≤ i by omega)]
              simp only [Option.bind_some]
              rw [if_pos h30]
            · obtain ⟨v, hv, hw, hm⟩ := mild_p f  (k := (IntKind.wrap .u32 ((List.getD l (Int.toNat (Int.tmod (i : Int) ((l.length : Nat) : Int))) (0:Int)) + (IntKind.wrap .u32 ((IntKind.wrap .u32 (IntKind.wrap .i64 (Int.tdiv (i : Int) ((l.length : Nat) : Int)))) * (40503:Int)))))) (wrap_w _)
              refine ⟨v, fun R' kn ko => ?_, hw, fun _ => hm⟩
              unfold st_annealseat_Tensor_0
              dsimp only
              simp only [List.take_length, bif_dec, hz, hRC]
              rw [wi64 (n := ((R * C : Nat) : Int)) (by omega), if_pos (show (i : Int) < ((R * C : Nat) : Int) by omega), if_pos hl0, cond_false, if_pos ht, cond_false, cond_true, hv, wi64 (n := (i : Int) + 1) (by omega), show ((i + 1 : Nat) : Int) = (i : Int) + 1 by omega]
              rw [List.take_of_length_le (show V.length ≤ i by omega)]
              simp only [Option.bind_some]
              rw [if_pos h30]
          · cases m
            · obtain ⟨v, hv, hw⟩ := num_wf f  (k := (IntKind.wrap .u32 ((IntKind.wrap .u32 (i : Int)) * (2654435761:Int)))) (wrap_w _)
              refine ⟨v, fun R' kn ko => ?_, hw, fun h => by cases h⟩
              unfold st_annealseat_Tensor_0
              dsimp only
              simp only [List.take_length, bif_dec, hRC]
              rw [wi64 (n := ((R * C : Nat) : Int)) (by omega), if_pos (show (i : Int) < ((R * C : Nat) : Int) by omega), if_neg hl0, cond_false, hv, wi64 (n := (i : Int) + 1) (by omega), show ((i + 1 : Nat) : Int) = (i : Int) + 1 by omega]
              rw [List.take_of_length_le (show V.length ≤ i by omega)]
              simp only [Option.bind_some]
              rw [if_pos h30]
            · obtain ⟨v, hv, hw, hm⟩ := mild_p f  (k := (IntKind.wrap .u32 ((IntKind.wrap .u32 (i : Int)) * (2654435761:Int)))) (wrap_w _)
              refine ⟨v, fun R' kn ko => ?_, hw, fun _ => hm⟩
              unfold st_annealseat_Tensor_0
              dsimp only
              simp only [List.take_length, bif_dec, hRC]
              rw [wi64 (n := ((R * C : Nat) : Int)) (by omega), if_pos (show (i : Int) < ((R * C : Nat) : Int) by omega), if_neg hl0, cond_true, hv, wi64 (n := (i : Int) + 1) (by omega), show ((i + 1 : Nat) : Int) = (i : Int) + 1 by omega]
              rw [List.take_of_length_le (show V.length ≤ i by omega)]
              simp only [Option.bind_some]
              rw [if_pos h30]
        obtain ⟨v, hs, hw, hm⟩ := stp
        refine ⟨_, hs, ⟨i + 1, V ++ [v], rfl, by omega, by simp [h2], ?_, ?_⟩, by simp only; omega⟩
        · intro c hc; rcases List.mem_append.1 hc with q | q
          · exact h3 c q
          · simp at q; rw [q]; exact hw
        · intro hmt c hc; rcases List.mem_append.1 hc with q | q
          · exact h4 hmt c q
          · simp at q; rw [q]; exact hm hmt
      · right
        have e : i = R * C := by omega
        subst e
        refine ⟨_, fun R' kn ko => ?_, ⟨V, rfl, h2, h3, h4⟩⟩
        unfold st_annealseat_Tensor_0
        dsimp only
        simp only [List.take_length, bif_dec, hRC]
        rw [wi64 (n := ((R * C : Nat) : Int)) (by omega), if_neg (show ¬ ((R * C : Nat) : Int) < ((R * C : Nat) : Int) by omega)])
    (((R : Int), ((C : Int), (f, (l, (m, ((0:Int), ())))))), (((0:Int), ((0:Int), ((0:Int), ()))), (((R : Int), ((C : Int), (f, ((0:Nat), ())))), ([], ()))))
    ⟨0, [], rfl, by omega, rfl, fun c hc => absurd hc (by simp), fun _ c hc => absurd hc (by simp)⟩
  refine ⟨V, ?_, lV, wV, mV⟩
  unfold F_annealseat_Tensor
  rw [List.take_length, hr, hr2]
  simp only [Option.bind_some, List.drop_zero]
  rw [List.take_of_length_le (by omega)]
theorem wf_wl {f : Int} {V : List Int} (h : ∀ v ∈ V, wf f v) : wl V := fun a ha => wf_w (h a ha)
theorem wf_right {R C : Nat} {f : Int} {V : List Int} (hR : R ≤ 4096) (hC : C ≤ 4096) (hl : V.length = R * C) (hf : knownS f = true) (h : ∀ v ∈ V, wf f v) : rightS ((R : Int), (C : Int), f, V, ()) = true :=
  right_mk hR hC hl hf (List.all_eq_true.2 fun a ha => decide_eq_true (h a ha).2)
end Go.Proofs.Ytkknnloamidaiaa.VI

namespace Go.Proofs.Ytkknnloamidaiaa.VI
set_option linter.unusedVariables false
set_option linter.unusedSimpArgs false
set_option linter.unusedSimpArgs false
set_option linter.unusedVariables false
set_option maxRecDepth 100000
set_option maxHeartbeats 4000000
def addS (f mode a b : Int) : Int × ExcT × Unit :=
  if nan f a || nan f b then (NN f, (loud f a || loud f b, false, false, false, false, ()), ())
  else if inff f a && (inff f b && !(sg f a == sg f b)) then (NN f, (true, false, false, false, false, ()), ())
  else if inff f a then (sgn f (sg f a) + IN f, EXC0, ())
  else if inff f b then (sgn f (sg f b) + IN f, EXC0, ())
  else sumS f mode (sg f a) (xp f a) (sig f a) (sg f b) (xp f b) (sig f b)
theorem add_eq (f mode : Int) {a b : Int} (ha : w32 a) (hb : w32 b) : F_sum_Add f mode a b = some (addS f mode a b) := by
  have xa := xp_bd f a
  have xb := xp_bd f b
  have hs := psum_eq f mode (sg f a) (sg f b) (N := sig f a) (M := sig f b) (sig_48 f a) (sig_48 f b) (show -298 ≤ xp f a ∧ xp f a ≤ 300 by omega) (show -298 ≤ xp f b ∧ xp f b ≤ 300 by omega)
  unfold F_sum_Add F_sum_Infinite F_sum_Bad addS
  rw [snans_eq f [a, b] (by simp) (by simpa using ⟨ha, hb⟩), neg_eq f ha, neg_eq f hb, isinf_eq f ha, isinf_eq f hb, of_eq f ha, of_eq f hb, nan_w]
  simp only [Option.bind_some, List.any_cons, List.any_nil, Bool.or_false, inf_eq]
  rw [hs]
  generalize sumS f mode (sg f a) (xp f a) (sig f a) (sg f b) (xp f b) (sig f b) = W
  rcases cls f a with ⟨a1, a3, a4⟩ | ⟨a1, a2, a3, a4⟩ | ⟨a1, a2, a3, a4⟩ | ⟨a1, a2, a3, a4⟩ <;> rcases cls f b with ⟨b1, b3, b4⟩ | ⟨b1, b2, b3, b4⟩ | ⟨b1, b2, b3, b4⟩ | ⟨b1, b2, b3, b4⟩ <;> simp only [a1, a3, a4, b1, b3, b4] <;> first | rfl | (cases sg f a <;> cases sg f b <;> rfl)
theorem add_wf (f mode a b : Int) : wf f (addS f mode a b).1 := by
  unfold addS
  split
  · exact NN_wf f
  · split
    · exact NN_wf f
    · split
      · exact infs_wf f _
      · split
        · exact infs_wf f _
        · exact sum_wf _ _ _ _ _ _ _ _
def addf (a b : Int) : Int := (addS 2 0 a b).1
theorem addf_w (a b : Int) : w32 (addf a b) := wf_w (add_wf 2 0 a b)
theorem fadd_eq {a b : Int} (ha : w32 a) (hb : w32 b) : F_funcs_Add a b = some (addf a b) := by
  unfold F_funcs_Add; rw [add_eq 2 0 ha hb]; rfl
theorem eachB_eq (t y x : TsT) (g : Int) (hl : wl t.2.2.2.1) (hn : t.2.2.2.1.length ≤ 1073741824) (hy : wl y.2.2.2.1) (hc : t.2.2.2.1.length ≠ 0 → 0 < x.2.1 ∧ x.2.1 ≤ (y.2.2.2.1.length : Int)) :
    F_tensor_Each__kern_Biasc1 t g y x = some ((t.1, t.2.1, g, (List.range t.2.2.2.1.length).map (fun i => addf (gl t.2.2.2.1 i) (gl y.2.2.2.1 ((i : Int).tmod x.2.1).toNat)), ()), (y, (x, ()))) := by
  obtain ⟨r, c, f, l, ⟨⟩⟩ := t
  obtain ⟨b1, b2, b3, b4, ⟨⟩⟩ := y
  obtain ⟨d1, d2, d3, d4, ⟨⟩⟩ := x
  simp only at hl hn hy hc ⊢
  have := lim_seq (st := st_tensor_Each__kern_Biasc1_0) (fun i => ((l, ((l.length : Int), ((i : Int), ()))), ((b1, (b2, (b3, (b4, ())))), ((d1, (d2, (d3, (d4, ())))), (((0:Int), ((0:Int), ((0:Int), ()))), ((r, (c, (g, (l.length, ())))), (lay1 (fun i => addf (gl l i) (gl b4 ((i : Int).tmod d2).toNat)) l.length i, ())))))))
    (b := ((), ((b1, (b2, (b3, (b4, ())))), ((d1, (d2, (d3, (d4, ())))), (((0:Int), ((0:Int), ((0:Int), ()))), ((r, (c, (g, (l.length, ())))), (lay1 (fun i => addf (gl l i) (gl b4 ((i : Int).tmod d2).toNat)) l.length l.length, ()))))))) l.length
    (fun i hi R kn ko => by
      have hll := lay1_len (fun i => addf (gl l i) (gl b4 ((i : Int).tmod d2).toNat)) (Nat.le_of_lt hi)
      have hls := lay1_set (fun i => addf (gl l i) (gl b4 ((i : Int).tmod d2).toNat)) hi
      obtain ⟨c1, c2⟩ := hc (by omega)
      have hz : (d2 == 0) = false := beq_false_of_ne (by omega)
      have ht : 0 ≤ Int.tmod (i : Int) d2 ∧ Int.tmod (i : Int) d2 < (b4.length : Int) := by
        rw [tmod_nn (by omega)]; exact ⟨Int.emod_nonneg _ (by omega), Int.lt_of_lt_of_le (Int.emod_lt_of_pos _ c1) c2⟩
      unfold st_tensor_Each__kern_Biasc1_0 F_kern_Biasc1
      dsimp only at hls ⊢
      simp only [List.take_length, bif_dec, hll, Int.toNat_natCast, hz, cond_false]
      rw [if_pos (by omega), if_pos (by omega), if_pos ht, fadd_eq (wl_get hl i) (wl_get hy _)]
      simp only [Option.bind_some]
      rw [if_pos (by omega), if_pos (by omega), show 0 + i * 1 = i by omega, hls, wi64 (by omega), show ((i + 1 : Nat) : Int) = (i : Int) + 1 by omega])
    (fun R kn ko => by
      unfold st_tensor_Each__kern_Biasc1_0
      dsimp only
      simp only [List.take_length, bif_dec]
      rw [if_neg (by omega)])
  rw [lay1_zero] at this
  unfold F_tensor_Each__kern_Biasc1
  dsimp only
  simp only [List.take_length, bif_dec, Int.toNat_natCast]
  rw [if_pos (by omega)]
  have e : lim st_tensor_Each__kern_Biasc1_0 ((l, ((l.length : Int), ((0 : Int), ()))), ((b1, (b2, (b3, (b4, ())))), ((d1, (d2, (d3, (d4, ())))), (((0:Int), ((0:Int), ((0:Int), ()))), ((r, (c, (g, (l.length, ())))), (List.replicate l.length 0, ())))))) = _ := this
  rw [e]
  simp only [Option.bind_some, List.take_length, List.drop_zero, lay1_all]
  rw [List.take_of_length_le (by simp)]
theorem eachA_eq (t y : TsT) (g : Int) (hl : wl t.2.2.2.1) (hn : t.2.2.2.1.length ≤ 1073741824) (hy : wl y.2.2.2.1) (hc : t.2.2.2.1.length ≤ y.2.2.2.1.length) :
    F_tensor_Each__pairs_Add t g y = some ((t.1, t.2.1, g, (List.range t.2.2.2.1.length).map (fun i => addf (gl t.2.2.2.1 i) (gl y.2.2.2.1 i)), ()), (((), ()), (y, ()))) := by
  obtain ⟨r, c, f, l, ⟨⟩⟩ := t
  obtain ⟨b1, b2, b3, b4, ⟨⟩⟩ := y
  simp only at hl hn hy hc ⊢
  have := lim_seq (st := st_tensor_Each__pairs_Add_0) (fun i => ((l, ((l.length : Int), ((i : Int), ()))), ((), ((b1, (b2, (b3, (b4, ())))), (((0:Int), ((0:Int), ((0:Int), ()))), ((r, (c, (g, (l.length, ())))), (lay1 (fun i => addf (gl l i) (gl b4 i)) l.length i, ())))))))
    (b := ((), ((), ((b1, (b2, (b3, (b4, ())))), (((0:Int), ((0:Int), ((0:Int), ()))), ((r, (c, (g, (l.length, ())))), (lay1 (fun i => addf (gl l i) (gl b4 i)) l.length l.length, ()))))))) l.length
    (fun i hi R kn ko => by
      have hll := lay1_len (fun i => addf (gl l i) (gl b4 i)) (Nat.le_of_lt hi)
      have hls := lay1_set (fun i => addf (gl l i) (gl b4 i)) hi
      unfold st_tensor_Each__pairs_Add_0 F_kern_pairsc1__funcs_Add
      dsimp only at hls ⊢
      simp only [List.take_length, bif_dec, hll, Int.toNat_natCast]
      rw [if_pos (by omega), if_pos (by omega), if_pos (by omega), fadd_eq (wl_get hl i) (wl_get hy _)]
      simp only [Option.bind_some]
      rw [if_pos (by omega), if_pos (by omega), show 0 + i * 1 = i by omega, hls, wi64 (by omega), show ((i + 1 : Nat) : Int) = (i : Int) + 1 by omega])
    (fun R kn ko => by
      unfold st_tensor_Each__pairs_Add_0
      dsimp only
      simp only [List.take_length, bif_dec]
      rw [if_neg (by omega)])
  rw [lay1_zero] at this
  unfold F_tensor_Each__pairs_Add
  dsimp only
  simp only [List.take_length, bif_dec, Int.toNat_natCast]
  rw [if_pos (by omega)]
  have e : lim st_tensor_Each__pairs_Add_0 ((l, ((l.length : Int), ((0 : Int), ()))), ((), ((b1, (b2, (b3, (b4, ())))), (((0:Int), ((0:Int), ((0:Int), ()))), ((r, (c, (g, (l.length, ())))), (List.replicate l.length 0, ())))))) = _ := this
  rw [e]
  simp only [Option.bind_some, List.take_length, List.drop_zero, lay1_all]
  rw [List.take_of_length_le (by simp)]
theorem bias_ok (R C J D : Nat) (f g : Int) (A B : List Int) (hA : wl A) (hB : wl B) (rA : rightS ((R : Int), (C : Int), f, A, ()) = true) (rB : rightS ((J : Int), (D : Int), g, B, ()) = true) :
    F_kern_Bias ((R : Int), (C : Int), f, A, ()) ((J : Int), (D : Int), g, B, ()) = some (if J = 1 ∧ C = D then (((R : Int), (C : Int), 2, (List.range (R * C)).map (fun i => addf (gl (wideL ((R : Int), (C : Int), f, A, ())) i) (gl (wideL ((J : Int), (D : Int), g, B, ())) (i % C))), ()), 0, ()) else (noT, 21, ())) := by
  obtain ⟨R', C', e1, e2, hR, hC, lA, _, _⟩ := right_nat rA
  obtain ⟨J', D', e3, e4, hJ, hD, lB, _, _⟩ := right_nat rB
  obtain rfl : R = R' := by omega
  obtain rfl : C = C' := by omega
  obtain rfl : J = J' := by omega
  obtain rfl : D = D' := by omega
  have b1 := rc_bd hR hC
  have b2 := rc_bd hJ hD
  have hb := both_eq ((R : Int), (C : Int), f, A, ()) ((J : Int), (D : Int), g, B, ()) hA hB (by simp only; omega) (by simp only; omega)
  have lWA := wideL_len ((R : Int), (C : Int), f, A, ())
  have lWB := wideL_len ((J : Int), (D : Int), g, B, ())
  have wWA := wideL_wl ((R : Int), (C : Int), f, A, ())
  have wWB := wideL_wl ((J : Int), (D : Int), g, B, ())
  simp only at lWA lWB
  unfold F_kern_Bias
  dsimp only
  simp only [List.take_length]
  rw [hb, rA, rB]
  generalize wideL ((R : Int), (C : Int), f, A, ()) = X at *
  generalize wideL ((J : Int), (D : Int), g, B, ()) = Y at *
  simp only [Option.bind_some, Bool.and_self, Bool.not_true, cond_false, if_true, List.take_length, bif_ne]
  by_cases h1 : J = 1
  · subst h1
    rw [if_pos (show ((1 : Nat) : Int) = 1 from rfl)]
    by_cases h2 : C = D
    · subst h2
      rw [if_pos rfl, if_pos ⟨rfl, rfl⟩]
      have := eachB_eq ((R : Int), (C : Int), 2, X, ()) (((1 : Nat) : Int), (C : Int), 2, Y, ()) ((R : Int), (C : Int), 2, X, ()) 2 wWA (by simp only; omega) wWB (by
        intro h
        simp only at h ⊢
        have : C ≠ 0 := by intro z; subst z; simp at lA; simp [lA] at lWA; exact h (by rw [lWA]; rfl)
        omega)
      rw [this]
      simp only [Option.bind_some, List.take_length]
      have hmap : (List.range X.length).map (fun i => addf (gl X i) (gl Y ((i : Int).tmod (C : Int)).toNat)) = (List.range (R * C)).map (fun i => addf (gl X i) (gl Y (i % C))) := by
        rw [lWA, lA]
        apply List.map_congr_left
        intro i hi
        rw [tmod_nn (by omega), show ((i : Int) % (C : Int)) = ((i % C : Nat) : Int) by simp, Int.toNat_natCast]
      rw [hmap]
    · rw [if_neg (by omega), if_neg (fun k => h2 k.2)]
  · rw [if_neg (by omega), if_neg (fun k => h1 k.1)]
theorem add_ok (R C J D : Nat) (f g : Int) (A B : List Int) (hA : wl A) (hB : wl B) (rA : rightS ((R : Int), (C : Int), f, A, ()) = true) (rB : rightS ((J : Int), (D : Int), g, B, ()) = true) :
    F_kern_Add ((R : Int), (C : Int), f, A, ()) ((J : Int), (D : Int), g, B, ()) = some (if R = J ∧ C = D then (((R : Int), (C : Int), 2, (List.range (R * C)).map (fun i => addf (gl (wideL ((R : Int), (C : Int), f, A, ())) i) (gl (wideL ((J : Int), (D : Int), g, B, ())) i)), ()), 0, ()) else (noT, 21, ())) := by
  obtain ⟨R', C', e1, e2, hR, hC, lA, _, _⟩ := right_nat rA
  obtain ⟨J', D', e3, e4, hJ, hD, lB, _, _⟩ := right_nat rB
  obtain rfl : R = R' := by omega
  obtain rfl : C = C' := by omega
  obtain rfl : J = J' := by omega
  obtain rfl : D = D' := by omega
  have b1 := rc_bd hR hC
  have b2 := rc_bd hJ hD
  have hb := both_eq ((R : Int), (C : Int), f, A, ()) ((J : Int), (D : Int), g, B, ()) hA hB (by simp only; omega) (by simp only; omega)
  have lWA := wideL_len ((R : Int), (C : Int), f, A, ())
  have lWB := wideL_len ((J : Int), (D : Int), g, B, ())
  have wWA := wideL_wl ((R : Int), (C : Int), f, A, ())
  have wWB := wideL_wl ((J : Int), (D : Int), g, B, ())
  simp only at lWA lWB
  unfold F_kern_Add F_kern_pairs__funcs_Add
  dsimp only
  simp only [List.take_length]
  rw [hb, rA, rB]
  generalize wideL ((R : Int), (C : Int), f, A, ()) = X at *
  generalize wideL ((J : Int), (D : Int), g, B, ()) = Y at *
  simp only [Option.bind_some, Bool.and_self, Bool.not_true, cond_false, if_true, List.take_length, bif_ne]
  by_cases h1 : R = J
  · subst h1
    rw [if_pos rfl]
    by_cases h2 : C = D
    · subst h2
      rw [if_pos rfl, if_pos ⟨rfl, rfl⟩]
      have := eachA_eq ((R : Int), (C : Int), 2, X, ()) ((R : Int), (C : Int), 2, Y, ()) 2 wWA (by simp only; omega) wWB (by simp only; omega)
      rw [this]
      simp only [Option.bind_some, List.take_length]
      rw [lWA, lA]
    · rw [if_neg (by omega), if_neg (fun k => h2 k.2)]
      simp only [Option.bind_some, List.take_length]
  · rw [if_neg (by omega), if_neg (fun k => h1 k.1)]
    simp only [Option.bind_some, List.take_length]
end Go.Proofs.Ytkknnloamidaiaa.VI

namespace Go.Proofs.Ytkknnloamidaiaa.VI
set_option linter.unusedVariables false
set_option linter.unusedSimpArgs false
set_option linter.unusedSimpArgs false
set_option linter.unusedVariables false
set_option maxRecDepth 100000
set_option maxHeartbeats 4000000
theorem gl_map {h : Nat → Int} {n i : Nat} (hi : i < n) : gl ((List.range n).map h) i = h i := by
  unfold gl; rw [List.getD_eq_getElem?_getD, List.getElem?_map, List.getElem?_range hi]; rfl
theorem wide_turn (R C : Nat) (f : Int) (V : List Int) (hV : V.length = R * C) : wideL ((C : Int), (R : Int), f, turnL V R C, ()) = turnL (wideL ((R : Int), (C : Int), f, V, ())) R C := by
  unfold wideL
  simp only
  rw [turnL_len, hV]
  unfold turnL
  apply List.map_congr_left
  intro k hk
  have hk := List.mem_range.1 hk
  rw [gl_map (tau_lt hk)]
  show widen f (gl ((List.range (R * C)).map fun k => gl V (tau R C k)) k) = _
  rw [gl_map hk]
theorem turn_turn (R C : Nat) (V : List Int) (hV : V.length = R * C) : turnL (turnL V R C) C R = V := by
  apply List.ext_getElem
  · rw [turnL_len, hV, Nat.mul_comm]
  · intro k h1 h2
    have hk : k < R * C := by omega
    have hk2 : k < C * R := by rw [Nat.mul_comm]; exact hk
    have e1 : (turnL (turnL V R C) C R)[k] = gl (turnL (turnL V R C) C R) k := (gtd h1 0).symm
    have e2 : V[k] = gl V k := (gtd h2 0).symm
    rw [e1, e2]
    show gl ((List.range (C * R)).map fun k => gl (turnL V R C) (tau C R k)) k = _
    rw [gl_map hk2]
    show gl ((List.range (R * C)).map fun k => gl V (tau R C k)) (tau C R k) = _
    rw [gl_map (by rw [Nat.mul_comm R C]; exact tau_lt hk2)]
    have : tau R C (tau C R k) = k := tau_sig hk
    rw [this]
theorem turn_wf {f : Int} {V : List Int} (h : ∀ v ∈ V, wf f v) (R C : Nat) (hV : V.length = R * C) : ∀ v ∈ turnL V R C, wf f v := by
  intro v hv
  unfold turnL at hv
  obtain ⟨k, hk, rfl⟩ := List.mem_map.1 hv
  have := tau_lt (List.mem_range.1 hk)
  have e : gl V (tau R C k) = V[tau R C k] := gtd (by omega) 0
  rw [e]; exact h _ (List.getElem_mem _)
theorem tmod5 {a : Int} (h : 0 ≤ a) : ∃ n : Nat, IntKind.wrap .i64 (Int.tmod a 5) = n ∧ n ≤ 4 := by
  refine ⟨(a % 5).toNat, ?_, by omega⟩
  rw [tmod_nn h, wi64 (by omega)]; omega
theorem tmod3k {a : Int} (h : 0 ≤ a) : knownS (IntKind.wrap .i64 (Int.tmod a 3)) = true := by
  rw [tmod_nn h, wi64 (by omega)]
  unfold knownS; simp; omega
theorem kernTurned {m k n f g : Int} {l r : List Int} (hm : 0 ≤ m) (hk : 0 ≤ k) (hn : 0 ≤ n) (hf : 0 ≤ f) (hg : 0 ≤ g) : F_anneallaw14_KernTurned m k n f g l r = some true := by
  obtain ⟨R, eR, hR⟩ := tmod5 hm
  obtain ⟨K, eK, hK⟩ := tmod5 hk
  obtain ⟨N, eN, hN⟩ := tmod5 hn
  have kf := tmod3k hf
  have kg := tmod3k hg
  unfold F_anneallaw14_KernTurned
  rw [known14]
  simp only [Option.bind_some, Bool.not_true, cond_false, List.take_length, bif_dec, eR, eK, eN]
  by_cases ll : (((l.length : Nat) : Int) > 30)
  · rw [if_pos ll]
  by_cases lr : (((r.length : Nat) : Int) > 30)
  · rw [if_neg ll, if_pos lr]
  rw [if_neg ll, if_neg lr]
  generalize IntKind.wrap .i64 (Int.tmod f 3) = f' at *
  generalize IntKind.wrap .i64 (Int.tmod g 3) = g' at *
  obtain ⟨V, hV, lV, wV, _⟩ := seatT R K f' l true (by omega) (by omega) (by omega)
  obtain ⟨W, hW, lW, wW, _⟩ := seatT K N g' r true (by omega) (by omega) (by omega)
  have rA := wf_right (R := R) (C := K) (by omega) (by omega) lV kf wV
  have rB := wf_right (R := K) (C := N) (by omega) (by omega) lW kg wW
  have wTV := turn_wf wV R K lV
  have wTW := turn_wf wW K N lW
  have rTA := wf_right (R := K) (C := R) (by omega) (by omega) (by rw [turnL_len, Nat.mul_comm]) kf wTV
  have rTB := wf_right (R := N) (C := K) (by omega) (by omega) (by rw [turnL_len, Nat.mul_comm]) kg wTW
  rw [hV]
  simp only [Option.bind_some, List.take_length]
  rw [hW]
  simp only [Option.bind_some, List.take_length]
  rw [turnr_eq13 R K f' V (by omega) (by omega) lV (wf_wl wV), turnr_eq13 K N g' W (by omega) (by omega) lW (wf_wl wW), rA, rB]
  simp only [Option.bind_some, if_true, List.take_length, plain_un, rows_un, cols_un]
  rw [times_ok R K K N f' g' V W false true (wf_wl wV) (wf_wl wW) rA rB, times_ok R K N K f' g' V (turnL W K N) false false (wf_wl wV) (wf_wl wTW) rA rTB, times_ok K R K N f' g' (turnL V R K) W true true (wf_wl wTV) (wf_wl wW) rTA rB]
  simp only [Option.bind_some, if_true, if_false, Bool.false_eq_true, List.take_length, BEq.rfl, cond_true]
  rw [wide_turn R K f' V lV, wide_turn K N g' W lW, turn_turn R K _ (by rw [wideL_len]; exact lV)]
  rw [tens_eq _ _ (by simp only; rw [prodL_len]; have := rc_bd (show R ≤ 4096 by omega) (show N ≤ 4096 by omega); omega)]
  simp
theorem callKernTurned : ∀ l, args [.i .u8, .i .u8, .i .u8, .i .u8, .i .u8, .ints .u32, .ints .u32] l → oks l → CallOk PR i_anneallaw14_KernTurned l [] fun r _ => r = .b true :=
  rowT (fa := fa_anneallaw14_KernTurned) (F := G_anneallaw14_KernTurned) rfl rfl ok_anneallaw14_KernTurned (enters p_anneallaw14_KernTurned (by kernel_rfl) (by kernel_rfl)) rfl fun x hx =>
    kernTurned hx.1.1 hx.2.1.1 hx.2.2.1.1 hx.2.2.2.1.1 hx.2.2.2.2.1.1
end Go.Proofs.Ytkknnloamidaiaa.VI

namespace Go.Proofs.Ytkknnloamidaiaa.VI
set_option linter.unusedVariables false
set_option linter.unusedSimpArgs false
set_option linter.unusedSimpArgs false
set_option linter.unusedVariables false
set_option maxRecDepth 100000
set_option maxHeartbeats 4000000
theorem parts_val (f : Int) {s : Int} (h : wf f s) : s = sgn f (sg f s) + ex f s * BB f + ff f s := by
  have e := ex_fr f s
  have hs := sg_iff f s h.1
  have hm := mod_bd f s
  have e2 : s % (2 * TT f) = s := Int.emod_eq_of_lt h.1 h.2
  rw [e2] at hs hm
  unfold sgn
  cases hq : sg f s
  · rw [hq] at hs; simp at hs ⊢; omega
  · have := hs.1 hq; simp; omega
theorem fin_ex (f : Int) {s : Int} (hn : nan f s = false) (hi : inff f s = false) : ex f s < RR f - 1 := by
  rw [ex_fin]
  unfold nan at hn; unfold inff at hi
  simp only [decide_eq_false_iff_not] at hn hi
  omega
theorem up_no (mode : Int) (n o : Bool) : upS mode n o false false = false := by
  unfold upS
  (repeat' split) <;> cases n <;> rfl
theorem pk_round (f mode : Int) {s : Int} (h : wf f s) (hn : nan f s = false) (hi : inff f s = false) : pk f mode (sg f s) (xp f s) (sig f s) false = (s, EXC0, ()) := by
  have hv := parts_val f h
  have hx := fin_ex f hn hi
  have b1 := ex_bd f s
  have b2 := ff_bd f s
  have fb := fmt_bd f
  have lb := le_bd f
  obtain ⟨k, hk, hb, hk3⟩ := MM_pow f
  have pkk := p2_pos k
  have hm : ∀ x, 0 ≤ x → x < BB f → x % BB f = x ∧ x / BB f = 0 := fun x h0 h1 => ⟨Int.emod_eq_of_lt h0 h1, Int.ediv_eq_zero_of_lt h0 h1⟩
  unfold pk
  by_cases h0 : sig f s = 0 ∧ false = false
  · rw [if_pos h0]
    have : ex f s = 0 ∧ ff f s = 0 := by
      have := h0.1
      unfold sig at this
      split at this
      · exact ⟨by assumption, this⟩
      · split at this <;> omega
    rw [this.1, this.2] at hv
    simp only [Int.zero_mul, Int.add_zero] at hv
    rw [← hv]
  · rw [if_neg h0]
    have hs0 : sig f s ≠ 0 := fun q => h0 ⟨q, rfl⟩
    have hu : unitS f (xp f s) (sig f s) = xp f s := by
      unfold unitS
      rw [if_neg hs0]
      by_cases he : ex f s = 0
      · have hsf : sig f s = ff f s := by unfold sig; rw [if_pos he]
        have hxf : xp f s = le f - MM f := by unfold xp; rw [if_pos he]
        have hp : 0 < ff f s := by omega
        have := lg_bd (k := k) hp (by omega)
        rw [hsf, hxf, ln_pos hp]; omega
      · have hsf : sig f s = ff f s + BB f := by unfold sig; rw [if_neg he, if_neg (by omega)]
        have hxf : xp f s = le f - MM f + ex f s - 1 := by unfold xp; rw [if_neg he, if_neg (by omega)]
        have : lg (sig f s) = k := lg_uniq (by omega) (by rw [p2_succ]; omega)
        rw [hxf, ln_pos (by omega), this]; omega
    have hq : qS (sig f s) (unitS f (xp f s) (sig f s) - xp f s) = sig f s := by
      rw [hu]; unfold qS; rw [if_pos (by omega)]; simp
    have hh : halfS (sig f s) (unitS f (xp f s) (sig f s) - xp f s) = false := by
      rw [hu]; unfold halfS; rw [if_pos (by omega)]
    have hr : restS (sig f s) (unitS f (xp f s) (sig f s) - xp f s) false = false := by
      rw [hu]; unfold restS; rw [if_pos (by omega)]; rfl
    rw [hq, hh, hr, hu]
    unfold fin1
    rw [up_no]
    simp only [Bool.false_eq_true, if_false]
    unfold fin2
    have sb := sig_bd f s
    have q0 : sig f s / (2 * BB f) = 0 := Int.ediv_eq_zero_of_lt sb.1 sb.2
    simp only [q0, if_true]
    by_cases he : ex f s = 0
    · have hsf : sig f s = ff f s := by unfold sig; rw [if_pos he]
      have := hm (ff f s) b2.1 b2.2
      rw [hsf, this.2, this.1, if_pos rfl, if_neg (by omega)]
      rw [he] at hv
      simp only [Int.zero_mul, Int.add_zero] at hv ⊢
      rw [← hv]; rfl
    · have hsf : sig f s = ff f s + BB f := by unfold sig; rw [if_neg he, if_neg (by omega)]
      have hxf : xp f s = le f - MM f + ex f s - 1 := by unfold xp; rw [if_neg he, if_neg (by omega)]
      have := hm (ff f s) b2.1 b2.2
      have d1 : sig f s / BB f = 1 := by rw [hsf, Int.add_ediv_of_dvd_right (Int.dvd_refl _), this.2, Int.ediv_self (by omega)]; rfl
      have d2 : sig f s % BB f = ff f s := by rw [hsf, Int.add_emod_right, this.1]
      rw [d1, d2, if_neg (by omega), hxf, show le f - MM f + ex f s - 1 + MM f - le f + 1 = ex f s by omega, if_neg (by omega), ← hv]; rfl
theorem widen_fin {s : Int} (h : w32 s) (hn : nan 2 s = false) (hi : inff 2 s = false) : widen 2 s = s := by
  have hw : wf 2 s := ⟨h.1, by have := h.2; simp [TT]; omega⟩
  unfold widen toS
  rw [hn, hi]
  simp only [Bool.false_eq_true, if_false]
  rw [pk_round 2 0 hw hn hi]
end Go.Proofs.Ytkknnloamidaiaa.VI

namespace Go.Proofs.Ytkknnloamidaiaa.VI
set_option linter.unusedVariables false
set_option linter.unusedSimpArgs false
set_option linter.unusedSimpArgs false
set_option linter.unusedVariables false
set_option maxRecDepth 100000
set_option maxHeartbeats 4000000
theorem tot_one (f mode : Int) (n : Bool) {e N : Int} (hN : 0 < N) (he : -298 ≤ e) : totS f mode (sv n (N * 2 ^ (e + 298).toNat)) = pk f mode n e N false := by
  have p := p2_pos (e + 298).toNat
  have hp : 0 < N * 2 ^ (e + 298).toNat := Int.mul_pos hN p
  have hne : sv n (N * 2 ^ (e + 298).toNat) ≠ 0 := by unfold sv; split <;> omega
  have hs : decide (sv n (N * 2 ^ (e + 298).toNat) < 0) = n := by unfold sv; cases n <;> simp <;> omega
  have ha : (if sv n (N * 2 ^ (e + 298).toNat) < 0 then -sv n (N * 2 ^ (e + 298).toNat) else sv n (N * 2 ^ (e + 298).toNat)) = N * 2 ^ (e + 298).toNat := by
    unfold sv; cases n <;> simp <;> omega
  unfold totS
  rw [if_neg hne, hs, ha, pk_shift _ _ _ _ _ _ (by omega), show -298 + (((e + 298).toNat : Nat) : Int) = e by omega]
theorem zr_of (f : Int) {s : Int} (h : mildP f s) : sig f s = 0 ↔ s = 0 := by
  rw [sig_zero f s h.1 h.2.1]
  unfold zr; simp
  constructor
  · exact h.2.2
  · intro k; rw [k]; simp
theorem mild0 (f : Int) : mildP f 0 := by
  have ib := IN_bd f
  refine ⟨?_, ?_, fun _ => rfl⟩
  · unfold nan; rw [Int.zero_emod]; exact decide_eq_false (by omega)
  · unfold inff; rw [Int.zero_emod]; exact decide_eq_false (by omega)
theorem fma_zero {x s : Int} (hx : mildP 2 x) (hs : mildP 2 s) (ws : wf 2 s) : fma x 0 s = s := by
  have h0 := mild0 2
  have z0 : sig 2 0 = 0 := by decide
  have g0 : sg 2 0 = false := by decide
  have xs := xp_bd 2 s
  have xx := xp_bd 2 x
  have x0 := xp_bd 2 0
  unfold fma fmaS
  rw [hx.1, hx.2.1, hs.1, hs.2.1, h0.1, h0.2.1, z0]
  simp only [Bool.or_false, Bool.and_false, Bool.false_and, Bool.false_eq_true, if_false]
  unfold sumS
  have e1 : sv (!(sg 2 x == sg 2 0)) (sig 2 x * 0 * 2 ^ (xp 2 x + xp 2 0 + 298).toNat) = 0 := by unfold sv; simp
  rw [e1, Int.zero_add]
  by_cases hz : s = 0
  · subst hz
    have e2 : sv (sg 2 0) (sig 2 0 * 2 ^ (xp 2 0 + 298).toNat) = 0 := by rw [z0]; unfold sv; simp
    rw [e2]
    by_cases q : (0 : Int) = 0 ∧ (!(sg 2 x == sg 2 0)) = sg 2 0
    · rw [if_pos q, q.2, g0]; rfl
    · rw [if_neg q]; unfold totS; rw [if_pos rfl]; rfl
  · have hsn : sig 2 s ≠ 0 := fun k => hz ((zr_of 2 hs).1 k)
    have sb := sig_bd 2 s
    have p := p2_pos (xp 2 s + 298).toNat
    have hp : 0 < sig 2 s * 2 ^ (xp 2 s + 298).toNat := Int.mul_pos (by omega) p
    have hne : sv (sg 2 s) (sig 2 s * 2 ^ (xp 2 s + 298).toNat) ≠ 0 := by unfold sv; split <;> omega
    rw [if_neg (fun k => hne k.1), tot_one 2 0 (sg 2 s) (by omega) (by omega), pk_round 2 0 ws hs.1 hs.2.1]
theorem fma_one {x : Int} (hx : mildP 2 x) (wx : wf 2 x) : fma x 1065353216 0 = x := by
  have h0 := mild0 2
  have z0 : sig 2 0 = 0 := by decide
  have g0 : sg 2 0 = false := by decide
  have o1 : nan 2 1065353216 = false := by decide
  have o2 : inff 2 1065353216 = false := by decide
  have o3 : sig 2 1065353216 = 2 ^ 23 := by decide
  have o4 : sg 2 1065353216 = false := by decide
  have o5 : xp 2 1065353216 = -23 := by decide
  have xx := xp_bd 2 x
  unfold fma fmaS
  rw [hx.1, hx.2.1, h0.1, h0.2.1, o1, o2, o3, o4, o5]
  simp only [Bool.or_false, Bool.and_false, Bool.false_and, Bool.false_eq_true, if_false]
  have hzz : zr 2 1065353216 = false := by decide
  unfold sumS
  have e2 : sv (sg 2 0) (sig 2 0 * 2 ^ (xp 2 0 + 298).toNat) = 0 := by rw [z0]; unfold sv; simp
  rw [e2, Int.add_zero]
  have hn : (!(sg 2 x == false)) = sg 2 x := by cases sg 2 x <;> rfl
  rw [hn]
  by_cases hz : x = 0
  · subst hz
    rw [z0, g0]
    rw [if_pos ⟨by unfold sv; simp, rfl⟩]; rfl
  · have hsn : sig 2 x ≠ 0 := fun k => hz ((zr_of 2 hx).1 k)
    have sb := sig_bd 2 x
    have c23 : (2 : Int) ^ 23 = 8388608 := rfl
    have hpos : 0 < sig 2 x * 2 ^ 23 := Int.mul_pos (by omega) (by omega)
    have p := p2_pos (xp 2 x + -23 + 298).toNat
    have hp : 0 < sig 2 x * 2 ^ 23 * 2 ^ (xp 2 x + -23 + 298).toNat := Int.mul_pos hpos p
    have hne : sv (sg 2 x) (sig 2 x * 2 ^ 23 * 2 ^ (xp 2 x + -23 + 298).toNat) ≠ 0 := by unfold sv; split <;> omega
    rw [if_neg (fun k => hne k.1), tot_one 2 0 (sg 2 x) hpos (by omega), pk_shift _ _ _ _ _ _ (by omega), show xp 2 x + -23 + ((23 : Nat) : Int) = xp 2 x by omega, pk_round 2 0 wx hx.1 hx.2.1]
theorem dtf_unit (X Y : Nat → Int) (j : Nat) (hX : ∀ i, mildP 2 (X i) ∧ wf 2 (X i)) (hY : ∀ i, Y i = if i = j then 1065353216 else 0) : ∀ n, dtf X Y n = if j < n then X j else 0
  | 0 => by simp [dtf]
  | n + 1 => by
    simp only [dtf]
    rw [dtf_unit X Y j hX hY n, hY]
    by_cases h : n = j
    · subst h
      rw [if_pos rfl, if_neg (Nat.lt_irrefl n), if_pos (Nat.lt_succ_self n)]
      exact fma_one (hX n).1 (hX n).2
    · rw [if_neg h]
      by_cases l : j < n
      · rw [if_pos l, if_pos (by omega)]; exact fma_zero (hX n).1 (hX j).1 (hX j).2
      · rw [if_neg l, if_neg (by omega)]; exact fma_zero (hX n).1 (mild0 2) ⟨by decide, by decide⟩
def unitL (c i : Nat) : List Int := (List.range (c * c)).map fun k => if k / c = k % c ∧ k / c < i then 1065353216 else 0
theorem unitL_len (c i : Nat) : (unitL c i).length = c * c := by unfold unitL; simp
theorem unitL_wl (c i : Nat) : wl (unitL c i) := range_wl fun k => by split <;> exact ⟨by decide, by decide⟩
theorem unitL_set {c i : Nat} (hi : i < c) : (unitL c i).set (i * c + i) 1065353216 = unitL c (i + 1) := by
  apply List.ext_getElem
  · simp [unitL]
  · intro k h1 h2
    have hk : k < c * c := by simpa [unitL] using h2
    rw [List.getElem_set]
    simp only [unitL, List.getElem_map, List.getElem_range]
    have d1 : (i * c + i) / c = i := by rw [Nat.mul_comm, Nat.mul_add_div (by omega), Nat.div_eq_of_lt hi]; omega
    have d2 : (i * c + i) % c = i := by rw [Nat.mul_comm, Nat.mul_add_mod, Nat.mod_eq_of_lt hi]
    by_cases e : i * c + i = k
    · rw [if_pos e, ← e, d1, d2, if_pos ⟨rfl, by omega⟩]
    · rw [if_neg e]
      have hne : ¬ (k / c = k % c ∧ k / c = i) := by
        rintro ⟨a, b⟩
        apply e
        have := Nat.div_add_mod k c
        rw [← a, b, Nat.mul_comm] at this; exact this
      by_cases l : k / c = k % c ∧ k / c < i
      · rw [if_pos l, if_pos ⟨l.1, by omega⟩]
      · rw [if_neg l, if_neg]
        rintro ⟨a, b⟩
        apply l
        refine ⟨a, ?_⟩
        have : k / c ≠ i := fun q => hne ⟨a, q⟩
        omega
theorem unit_get {c k : Nat} (hk : k < c * c) : gl (unitL c c) k = if k / c = k % c then 1065353216 else 0 := by
  unfold unitL
  rw [gl_map hk]
  have : k / c < c := Nat.div_lt_of_lt_mul hk
  by_cases h : k / c = k % c
  · rw [if_pos ⟨h, this⟩, if_pos h]
  · rw [if_neg (fun q => h q.1), if_neg h]
theorem unit_row {c j x : Nat} (hj : j < c) (hx : x < c) : gl (unitL c c) (j * c + x) = if x = j then 1065353216 else 0 := by
  have h1 : (j + 1) * c ≤ c * c := Nat.mul_le_mul_right _ hj
  rw [Nat.add_mul] at h1
  rw [unit_get (by omega)]
  have d1 : (j * c + x) / c = j := by rw [Nat.mul_comm, Nat.mul_add_div (by omega), Nat.div_eq_of_lt hx]; omega
  have d2 : (j * c + x) % c = x := by rw [Nat.mul_comm, Nat.mul_add_mod, Nat.mod_eq_of_lt hx]
  rw [d1, d2]
  by_cases h : x = j
  · rw [if_pos h, if_pos h.symm]
  · rw [if_neg h, if_neg (fun q => h q.symm)]
theorem unit_col {c j x : Nat} (hj : j < c) (hx : x < c) : gl (turnL (unitL c c) c c) (j * c + x) = if x = j then 1065353216 else 0 := by
  have h1 : (j + 1) * c ≤ c * c := Nat.mul_le_mul_right _ hj
  rw [Nat.add_mul] at h1
  unfold turnL
  rw [gl_map (by omega)]
  have d1 : (j * c + x) / c = j := by rw [Nat.mul_comm, Nat.mul_add_div (by omega), Nat.div_eq_of_lt hx]; omega
  have d2 : (j * c + x) % c = x := by rw [Nat.mul_comm, Nat.mul_add_mod, Nat.mod_eq_of_lt hx]
  have : tau c c (j * c + x) = x * c + j := by unfold tau; rw [d1, d2]
  rw [this, unit_row hx hj]
  by_cases h : x = j
  · rw [if_pos h, if_pos h.symm]
  · rw [if_neg h, if_neg (fun q => h q.symm)]
theorem units_prod {V Y : List Int} {R c : Nat} (hV : V.length = R * c) (mV : ∀ v ∈ V, mildP 2 v) (wV : ∀ v ∈ V, wf 2 v) (hY : ∀ j x, j < c → x < c → gl Y (j * c + x) = if x = j then 1065353216 else 0) : prodL V Y c c (R * c) = V := by
  have hX : ∀ i, mildP 2 (gl V i) ∧ wf 2 (gl V i) := by
    intro i
    unfold gl
    rw [List.getD_eq_getElem?_getD]
    cases e : V[i]? with
    | none => exact ⟨mild0 2, by decide, by decide⟩
    | some a => exact ⟨mV a (List.mem_of_getElem? e), wV a (List.mem_of_getElem? e)⟩
  apply List.ext_getElem
  · rw [prodL_len, hV]
  · intro k h1 h2
    have hk : k < R * c := by omega
    have hc : 0 < c := by apply Nat.pos_of_ne_zero; intro e; subst e; simp at hk
    have hj := Nat.mod_lt k hc
    have e1 : (prodL V Y c c (R * c))[k] = gl (prodL V Y c c (R * c)) k := (gtd h1 0).symm
    have e2 : V[k] = gl V k := (gtd h2 0).symm
    rw [e1, e2]
    unfold prodL
    rw [gl_map hk]
    unfold prodH
    rw [dtf_congr (x' := fun x => gl V ((k / c) * c + x)) (y' := fun x => if x = k % c then 1065353216 else 0) (fun x hx => ⟨rfl, hY _ _ hj hx⟩)]
    rw [dtf_unit _ _ (k % c) (fun i => hX _) (fun i => rfl), if_pos hj]
    have := Nat.div_add_mod k c
    rw [Nat.mul_comm, this]
theorem wide_mild (R C : Nat) (V : List Int) (mV : ∀ v ∈ V, mildP 2 v) (wV : ∀ v ∈ V, wf 2 v) : wideL ((R : Int), (C : Int), 2, V, ()) = V := by
  apply List.ext_getElem
  · rw [wideL_len]
  · intro k h1 h2
    have hm := List.getElem_mem h2
    have e1 : (wideL ((R : Int), (C : Int), 2, V, ()))[k] = gl (wideL ((R : Int), (C : Int), 2, V, ())) k := (gtd h1 0).symm
    rw [e1]
    show gl ((List.range V.length).map fun i => widen 2 (V.getD i 0)) k = _
    rw [gl_map h2, gtd h2]
    exact widen_fin (wf_w (wV _ hm)) (mV _ hm).1 (mV _ hm).2.1
theorem unitL_mild (c i : Nat) : (∀ v ∈ unitL c i, mildP 2 v) ∧ (∀ v ∈ unitL c i, wf 2 v) := by
  have o : mildP 2 1065353216 := ⟨by decide, by decide, by decide⟩
  refine ⟨fun v hv => ?_, fun v hv => ?_⟩
  · unfold unitL at hv
    obtain ⟨k, _, rfl⟩ := List.mem_map.1 hv
    split
    · exact o
    · exact mild0 2
  · unfold unitL at hv
    obtain ⟨k, _, rfl⟩ := List.mem_map.1 hv
    split <;> exact ⟨by decide, by decide⟩
theorem kernUnits {a b : Int} {l : List Int} (ha : 0 ≤ a) (hb : 0 ≤ b) : F_anneallaw14_KernUnits a b l = some true := by
  obtain ⟨R, eR, hR⟩ := tmod5 ha
  obtain ⟨n, eN, hN⟩ := tmod5 hb
  unfold F_anneallaw14_KernUnits
  rw [known14]
  obtain ⟨c, hc⟩ : ∃ c : Nat, c = n + 1 := ⟨_, rfl⟩
  have e1 : IntKind.wrap .i64 (IntKind.wrap .i64 (Int.tmod b 5) + 1) = (c : Int) := by rw [eN, wi64 (by omega)]; omega
  have cc : c * c ≤ 25 := Nat.mul_le_mul (show c ≤ 5 by omega) (show c ≤ 5 by omega)
  have e2 : IntKind.wrap .i64 ((c : Int) * (c : Int)) = ((c * c : Nat) : Int) := by
    rw [show ((c : Int) * (c : Int)) = ((c * c : Nat) : Int) by simp, wi64 (by omega)]
  simp only [Option.bind_some, Bool.not_true, cond_false, List.take_length, bif_dec, eR, e1, e2, Int.toNat_natCast]
  by_cases ll : (((l.length : Nat) : Int) > 30)
  · rw [if_pos ll]
  rw [if_neg ll]
  obtain ⟨V, hV, lV, wV, mV⟩ := seatT R c 2 l true (by omega) (by omega) (by omega)
  have mV := mV rfl
  have rA := wf_right (R := R) (C := c) (by omega) (by omega) lV (by decide) wV
  rw [hV]
  simp only [Option.bind_some, List.take_length]
  rw [if_pos (by omega)]
  have := lim_seq (st := st_anneallaw14_KernUnits_0) (fun i => (((c : Int), ((i : Int), ())), (((R : Int), ((c : Int), ((2 : Int), (V, ())))), (((c : Int), ((c : Int), ((2 : Int), ((c * c : Nat), ())))), (unitL c i, ())))))
    (b := ((), (((R : Int), ((c : Int), ((2 : Int), (V, ())))), (((c : Int), ((c : Int), ((2 : Int), ((c * c : Nat), ())))), (unitL c c, ()))))) c
    (fun i hi R' kn ko => by
      have h1 : (i + 1) * c ≤ c * c := Nat.mul_le_mul_right _ hi
      rw [Nat.add_mul] at h1
      have e3 : IntKind.wrap .i64 (IntKind.wrap .i64 ((i : Int) * (c : Int)) + (i : Int)) = ((i * c + i : Nat) : Int) := by
        rw [show ((i : Int) * (c : Int)) = ((i * c : Nat) : Int) by simp, wi64 (n := ((i * c : Nat) : Int)) (by omega), wi64 (by omega)]; omega
      unfold st_anneallaw14_KernUnits_0
      dsimp only
      simp only [List.take_length, bif_dec, e3, unitL_len, Int.toNat_natCast]
      rw [if_pos (show (i : Int) < (c : Int) by omega), if_pos (by omega), if_pos (by omega), show 0 + (i * c + i) * 1 = i * c + i by omega, unitL_set hi, wi64 (by omega), show ((i + 1 : Nat) : Int) = (i : Int) + 1 by omega])
    (fun R' kn ko => by
      unfold st_anneallaw14_KernUnits_0
      dsimp only
      simp only [List.take_length, bif_dec]
      rw [if_neg (show ¬ (c : Int) < (c : Int) by omega)])
  have h0 : unitL c 0 = List.replicate (c * c) 0 := by
    apply List.ext_getElem
    · simp [unitL]
    · intro k h1 h2; simp [unitL]
  rw [h0] at this
  have e : lim st_anneallaw14_KernUnits_0 (((c : Int), ((0 : Int), ())), (((R : Int), ((c : Int), ((2 : Int), (V, ())))), (((c : Int), ((c : Int), ((2 : Int), ((c * c : Nat), ())))), (List.replicate (c * c) 0, ())))) = _ := this
  rw [e]
  obtain ⟨mU, wU⟩ := unitL_mild c c
  have lU := unitL_len c c
  have rB := wf_right (R := c) (C := c) (by omega) (by omega) lU (by decide) wU
  simp only [Option.bind_some, List.take_length, List.drop_zero]
  rw [List.take_of_length_le (by omega)]
  simp only [plain_un, rows_un]
  rw [times_ok R c c c 2 2 V (unitL c c) false true (wf_wl wV) (unitL_wl c c) rA rB, times_ok R c c c 2 2 V (unitL c c) false false (wf_wl wV) (unitL_wl c c) rA rB]
  simp only [Option.bind_some, if_true, if_false, Bool.false_eq_true, List.take_length, BEq.rfl, cond_true]
  rw [wide_mild R c V mV wV, wide_mild c c (unitL c c) mU wU, units_prod lV mV wV (fun j x hj hx => unit_col hj hx), units_prod lV mV wV (fun j x hj hx => unit_row hj hx)]
  rw [tens_eq _ _ (by simp only; have := rc_bd (show R ≤ 4096 by omega) (show c ≤ 4096 by omega); omega)]
  simp
theorem callKernUnits : ∀ l, args [.i .u8, .i .u8, .ints .u32] l → oks l → CallOk PR i_anneallaw14_KernUnits l [] fun r _ => r = .b true :=
  rowT (fa := fa_anneallaw14_KernUnits) (F := G_anneallaw14_KernUnits) rfl rfl ok_anneallaw14_KernUnits (enters p_anneallaw14_KernUnits (by kernel_rfl) (by kernel_rfl)) rfl fun x hx =>
    kernUnits hx.1.1 hx.2.1.1
end Go.Proofs.Ytkknnloamidaiaa.VI

namespace Go.Proofs.Ytkknnloamidaiaa.VI
set_option linter.unusedVariables false
set_option linter.unusedSimpArgs false
open Go.ChangeShapes Go.WideShapes Go.RowKit Go.WideElems Ytkknnloamidaiaa
set_option maxRecDepth 100000
theorem laid : laidOutB Try.prog = true := by kernel_rfl
theorem own : ownKnob Try.prog.godebug = none := by kernel_rfl
theorem lifted (os : Os) (started : os.Started) (H : Type) (enc : TypeId × Value → H) :
    ReturnsInHanded {} Try.checked os 8 .any (Rows.kernUnitsSpec.pre6 enc Try.prog Try.f8 Rows.kernUnitsRow.domain false) (Rows.kernUnitsSpec.post enc Try.prog Try.f8 false true false false) :=
  lift_args (C := Try.checked) own started (by kernel_rfl) Try.func8
    (ChangeSpec.witness6 (enc := enc) (C := Try.checked) false ⟨#[], #[.int .u8 0, .int .u8 0, .slice none 0 0], []⟩ 8 (by kernel_rfl) (by kernel_rfl) (by kernel_rfl) (by kernel_rfl))
    laid Try.underlying4 rfl (by kernel_rfl) rfl (fun ds hd => match ds, hd with
    | [_, _, _], _ => rfl) (d := 6) (by kernel_rfl) (Fs := [.i .u8, .i .u8, .ints .u32]) (by kernel_rfl) callKernUnits
theorem over : Rows.kernUnitsRow.holds Try.pinned (OpenSpec.ofChange Rows.kernUnitsSpec) :=
  OpenClaim.holds_of_wide 8 Try.f8 rfl rfl rfl rfl rfl rfl rfl ⟨rfl, rfl, rfl, rfl, rfl⟩ rfl rfl rfl rfl rfl (by kernel_rfl) Try.func8 (by kernel_rfl)
    (of_decide_eq_true (by kernel_rfl)) (by unfold Func.isWrapper; first | (rw [if_pos (by decide +kernel)]; kernel_rfl) | (rw [if_neg (by decide +kernel)]; exact ⟨rfl, rfl⟩))
    (fun os started H enc _ => lifted os started H enc)
end Go.Proofs.Ytkknnloamidaiaa.VI
