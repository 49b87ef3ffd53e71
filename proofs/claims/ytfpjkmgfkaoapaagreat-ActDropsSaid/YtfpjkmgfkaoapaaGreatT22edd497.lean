import Derived.Test.YtfpjkmgfkaoapaaGreatTee148449
import Derived.Test.YtfpjkmgfkaoapaaGreatRows
import Derived.WalkKit
import Derived.ProofKit
namespace Go.Proofs.YtfpjkmgfkaoapaaGreat.VI
set_option linter.unusedVariables false
set_option linter.unusedSimpArgs false
set_option maxRecDepth 100000
set_option maxHeartbeats 4000000
def mildP (f v : Int) : Prop := nan f v = false ∧ inff f v = false ∧ (v % TT f = 0 → v = 0)
theorem mild_p {k : Int} (f : Int) (h : w32 k) : ∃ v, F_914 f k = some v ∧ wf f v ∧ mildP f v := by
  have fb := fmt_bd f
  unfold F_914
  rw [bif_eq]
  by_cases h0 : Int.tmod k 7 = 0
  · rw [if_pos h0]; refine ⟨0, rfl, ⟨by omega, by omega⟩, ?_⟩
    have ib := IN_bd f
    refine ⟨?_, ?_, fun _ => rfl⟩
    · unfold nan; rw [Int.zero_emod]; exact decide_eq_false (by omega)
    · unfold inff; rw [Int.zero_emod]; exact decide_eq_false (by omega)
  rw [if_neg h0, zeror_w, ← widr_nf f]
  have key : ∀ (x : Int), 0 < x → x < IN f → (x % (TT f) = x ∧ (TT f + x) % TT f = x) := by
    intro x h1 h2
    have ib := IN_bd f
    refine ⟨Int.emod_eq_of_lt (by omega) (by omega), ?_⟩
    rw [Int.add_comm, Int.add_emod_right]; exact Int.emod_eq_of_lt (by omega) (by omega)
  have fin : ∀ (x : Int), 0 < x → x < IN f → ∃ v, (bif (bits .and .u32 k 1 == 1) then some (bits .or .u32 x (sgn f true)) else some x) = some v ∧ wf f v ∧ mildP f v := by
    intro x h1 h2
    have ib := IN_bd f
    have kx := key x h1 h2
    cases bits .and .u32 k 1 == 1
    · refine ⟨x, rfl, ⟨by omega, by omega⟩, ?_, ?_, ?_⟩
      · unfold nan; rw [kx.1]; simp; omega
      · unfold inff; rw [kx.1]; simp; omega
      · rw [kx.1]; intro q; exact q
    · have e : bits .or .u32 x (sgn f true) = TT f + x := by
        rw [or_comm32, sgn_or f true ⟨by omega, by omega⟩]; unfold sgn; simp
      refine ⟨TT f + x, by rw [e]; rfl, ⟨by omega, by omega⟩, ?_, ?_, ?_⟩
      · unfold nan; rw [kx.2]; simp; omega
      · unfold inff; rw [kx.2]; simp; omega
      · rw [kx.2]; intro q; omega
  have hd : Int.tmod (k / 8) 4096 = k / 8 % 4096 ∧ Int.tmod (k / 8) 512 = k / 8 % 512 ∧ Int.tmod (k / 8) 33554432 = k / 8 % 33554432 := by
    have : 0 ≤ k / 8 := by have := h.1; omega
    exact ⟨tmod_nn this, tmod_nn this, tmod_nn this⟩
  have hI : IN f = (RR f - 1) * BB f := rfl
  rw [← nf_RR f, ← nf_BB f] at hI
  rcases nf_cases f with e | e | e <;> rw [e] at hI ⊢
  · have hI2 : IN f = 31744 := hI
    have := fin (IntKind.wrap .u32 (13312 + Int.tmod (k / 8) 4096)) (by rw [hd.1, wu32 (by omega)]; omega) (by rw [hd.1, wu32 (by omega)]; omega)
    exact this
  · have hI2 : IN f = 32640 := hI
    have := fin (IntKind.wrap .u32 (16000 + Int.tmod (k / 8) 512)) (by rw [hd.2.1, wu32 (by omega)]; omega) (by rw [hd.2.1, wu32 (by omega)]; omega)
    exact this
  · have hI2 : IN f = 2139095040 := hI
    have := fin (IntKind.wrap .u32 (1048576000 + Int.tmod (k / 8) 33554432)) (by rw [hd.2.2, wu32 (by omega)]; omega) (by rw [hd.2.2, wu32 (by omega)]; omega)
    exact this
theorem num_wf (f : Int) {k : Int} (h : w32 k) : ∃ v, F_913 f k = some v ∧ wf f v := by
  unfold F_913
  rw [maskr_eq, zeror_w, ← widr_nf f]
  have h15 : (0:Int) ≤ Int.tmod k 15 ∧ Int.tmod k 15 < 15 := by rw [tmod_nn h.1]; omega
  have o : ∀ y, wf f (bits .or .u32 (bits .and .u32 y (2 * TT f - 1)) (sgn f true)) := fun y => by
    have := or_top_bd f y
    unfold sgn; exact this
  rcases nf_cases f with e | e | e <;> rw [e]
  all_goals
    show ∃ v, (bif decide ((0:Int) ≤ Int.tmod k 15 ∧ Int.tmod k 15 < 15) then (bif decide ((0:Nat) + (Int.toNat (Int.tmod k 15)) * 1 < 15) then (bif (k / 2147483648 == 1) then some (bits .or .u32 (bits .and .u32 _ (2 * TT f - 1)) (sgn f true)) else some (bits .and .u32 _ (2 * TT f - 1))) else none) else none) = some v ∧ wf f v
    rw [bif_dec, if_pos h15, bif_dec, if_pos (by omega)]
    cases k / 2147483648 == 1
    · exact ⟨_, rfl, and_mask_bd f _⟩
    · exact ⟨_, rfl, o _⟩
theorem wrap_w (n : Int) : w32 (IntKind.wrap .u32 n) := by rw [wu32_eq]; exact ⟨by omega, by omega⟩
theorem seatT (R C : Nat) (f : Int) (l : List Int) (m : Bool) (hR : R ≤ 4096) (hC : C ≤ 4096) (hl : l.length < 4611686018427387904) :
    ∃ V, F_9d (R : Int) (C : Int) f l m = some ((R : Int), (C : Int), f, V, ()) ∧ V.length = R * C ∧ (∀ v ∈ V, wf f v) ∧ (m = true → ∀ v ∈ V, mildP f v) := by
  have hb := rc_bd hR hC
  have hRC : ((R : Int) * (C : Int)) = ((R * C : Nat) : Int) := by simp
  obtain ⟨r, hr, V, hr2, lV, wV, mV⟩ := lim_post (st := st_9d_0)
    (fun v => ∃ (i : Nat) (V : List Int), v = (((R : Int), ((C : Int), (f, (l, (m, ((i : Int), ())))))), (((0:Int), ((0:Int), ((0:Int), ()))), (((R : Int), ((C : Int), (f, ((i : Nat), ())))), (V, ())))) ∧ i ≤ R * C ∧ V.length = i ∧ (∀ v ∈ V, wf f v) ∧ (m = true → ∀ v ∈ V, mildP f v))
    (fun v => R * C + 1 - v.2.2.1.2.2.2.1)
    (fun r => ∃ (V : List Int), r = ((), (((0:Int), ((0:Int), ((0:Int), ()))), (((R : Int), ((C : Int), (f, ((R * C : Nat), ())))), (V, ())))) ∧ V.length = R * C ∧ (∀ v ∈ V, wf f v) ∧ (m = true → ∀ v ∈ V, mildP f v))
    (fun v hv => by
      obtain ⟨i, V, rfl, h1, h2, h3, h4⟩ := hv
      by_cases hi : i < R * C
      · left
        have h30 : i + 1 ≤ 1073741824 := by omega
        have stp : ∃ v, (∀ R' kn ko, st_9d_0 R' (((R : Int), ((C : Int), (f, (l, (m, ((i : Int), ())))))), (((0:Int), ((0:Int), ((0:Int), ()))), (((R : Int), ((C : Int), (f, ((i : Nat), ())))), (V, ())))) kn ko = kn (((R : Int), ((C : Int), (f, (l, (m, (((i + 1 : Nat) : Int), ())))))), (((0:Int), ((0:Int), ((0:Int), ()))), (((R : Int), ((C : Int), (f, ((i + 1 : Nat), ())))), (V ++ [v], ()))))) ∧ wf f v ∧ (m = true → mildP f v) := by
          by_cases hl0 : ((l.length : Nat) : Int) > 0
          · have ht : 0 ≤ Int.tmod (i : Int) ((l.length : Nat) : Int) ∧ Int.tmod (i : Int) ((l.length : Nat) : Int) < ((l.length : Nat) : Int) := by
              rw [tmod_nn (by omega)]; exact ⟨Int.emod_nonneg _ (by omega), Int.emod_lt_of_pos _ hl0⟩
            have hz : (((l.length : Nat) : Int) == 0) = false := beq_false_of_ne (by omega)
            cases m
            · obtain ⟨v, hv, hw⟩ := num_wf f  (k := (IntKind.wrap .u32 ((List.getD l (Int.toNat (Int.tmod (i : Int) ((l.length : Nat) : Int))) (0:Int)) + (IntKind.wrap .u32 ((IntKind.wrap .u32 (IntKind.wrap .i64 (Int.tdiv (i : Int) ((l.length : Nat) : Int)))) * (40503:Int)))))) (wrap_w _)
              refine ⟨v, fun R' kn ko => ?_, hw, fun h => by cases h⟩
              unfold st_9d_0
              dsimp only
              simp only [List.take_length, bif_dec, hz, hRC]
              rw [wi64 (n := ((R * C : Nat) : Int)) (by omega), if_pos (show (i : Int) < ((R * C : Nat) : Int) by omega), if_pos hl0, cond_false, if_pos ht, cond_false, cond_false, hv, wi64 (n := (i : Int) + 1) (by omega), show ((i + 1 : Nat) : Int) = (i : Int) + 1 by omega]
              rw [List.take_of_length_le (show V.length ≤ i by omega)]
              simp only [Option.bind_some]
              rw [if_pos h30]
            · obtain ⟨v, hv, hw, hm⟩ := mild_p f  (k := (IntKind.wrap .u32 ((List.getD l (Int.toNat (Int.tmod (i : Int) ((l.length : Nat) : Int))) (0:Int)) + (IntKind.wrap .u32 ((IntKind.wrap .u32 (IntKind.wrap .i64 (Int.tdiv (i : Int) ((l.length : Nat) : Int)))) * (40503:Int)))))) (wrap_w _)
              refine ⟨v, fun R' kn ko => ?_, hw, fun _ => hm⟩
              unfold st_9d_0
              dsimp only
              simp only [List.take_length, bif_dec, hz, hRC]
              rw [wi64 (n := ((R * C : Nat) : Int)) (by omega), if_pos (show (i : Int) < ((R * C : Nat) : Int) by omega), if_pos hl0, cond_false, if_pos ht, cond_false, cond_true, hv, wi64 (n := (i : Int) + 1) (by omega), show ((i + 1 : Nat) : Int) = (i : Int) + 1 by omega]
              rw [List.take_of_length_le (show V.length ≤ i by omega)]
              simp only [Option.bind_some]
              rw [if_pos h30]
          · cases m
            · obtain ⟨v, hv, hw⟩ := num_wf f  (k := (IntKind.wrap .u32 ((IntKind.wrap .u32 (i : Int)) * (2654435761:Int)))) (wrap_w _)
              refine ⟨v, fun R' kn ko => ?_, hw, fun h => by cases h⟩
              unfold st_9d_0
              dsimp only
              simp only [List.take_length, bif_dec, hRC]
              rw [wi64 (n := ((R * C : Nat) : Int)) (by omega), if_pos (show (i : Int) < ((R * C : Nat) : Int) by omega), if_neg hl0, cond_false, hv, wi64 (n := (i : Int) + 1) (by omega), show ((i + 1 : Nat) : Int) = (i : Int) + 1 by omega]
              rw [List.take_of_length_le (show V.length ≤ i by omega)]
              simp only [Option.bind_some]
              rw [if_pos h30]
            · obtain ⟨v, hv, hw, hm⟩ := mild_p f  (k := (IntKind.wrap .u32 ((IntKind.wrap .u32 (i : Int)) * (2654435761:Int)))) (wrap_w _)
              refine ⟨v, fun R' kn ko => ?_, hw, fun _ => hm⟩
              unfold st_9d_0
              dsimp only
              simp only [List.take_length, bif_dec, hRC]
              rw [wi64 (n := ((R * C : Nat) : Int)) (by omega), if_pos (show (i : Int) < ((R * C : Nat) : Int) by omega), if_neg hl0, cond_true, hv, wi64 (n := (i : Int) + 1) (by omega), show ((i + 1 : Nat) : Int) = (i : Int) + 1 by omega]
              rw [List.take_of_length_le (show V.length ≤ i by omega)]
              simp only [Option.bind_some]
              rw [if_pos h30]
        obtain ⟨v, hs, hw, hm⟩ := stp
        refine ⟨_, hs, ⟨i + 1, V ++ [v], rfl, by omega, by simp [h2], ?_, ?_⟩, by simp only; omega⟩
        · intro c hc; rcases List.mem_append.1 hc with q | q
          · exact h3 c q
          · simp at q; rw [q]; exact hw
        · intro hmt c hc; rcases List.mem_append.1 hc with q | q
          · exact h4 hmt c q
          · simp at q; rw [q]; exact hm hmt
      · right
        have e : i = R * C := by omega
        subst e
        refine ⟨_, fun R' kn ko => ?_, ⟨V, rfl, h2, h3, h4⟩⟩
        unfold st_9d_0
        dsimp only
        simp only [List.take_length, bif_dec, hRC]
        rw [wi64 (n := ((R * C : Nat) : Int)) (by omega), if_neg (show ¬ ((R * C : Nat) : Int) < ((R * C : Nat) : Int) by omega)])
    (((R : Int), ((C : Int), (f, (l, (m, ((0:Int), ())))))), (((0:Int), ((0:Int), ((0:Int), ()))), (((R : Int), ((C : Int), (f, ((0:Nat), ())))), ([], ()))))
    ⟨0, [], rfl, by omega, rfl, fun c hc => absurd hc (by simp), fun _ c hc => absurd hc (by simp)⟩
  refine ⟨V, ?_, lV, wV, mV⟩
  unfold F_9d
  rw [List.take_length, hr, hr2]
  simp only [Option.bind_some, List.drop_zero]
  rw [List.take_of_length_le (by omega)]
theorem wf_wl {f : Int} {V : List Int} (h : ∀ v ∈ V, wf f v) : wl V := fun a ha => wf_w (h a ha)
theorem wf_right {R C : Nat} {f : Int} {V : List Int} (hR : R ≤ 4096) (hC : C ≤ 4096) (hl : V.length = R * C) (hf : knownS f = true) (h : ∀ v ∈ V, wf f v) : rightS ((R : Int), (C : Int), f, V, ()) = true :=
  right_mk hR hC hl hf (List.all_eq_true.2 fun a ha => decide_eq_true (h a ha).2)
end Go.Proofs.YtfpjkmgfkaoapaaGreat.VI

namespace Go.Proofs.YtfpjkmgfkaoapaaGreat.VI
set_option linter.unusedVariables false
set_option linter.unusedSimpArgs false
set_option maxRecDepth 100000
set_option maxHeartbeats 8000000
theorem wider_eq (t : TsT) {i : Nat} (hl : wl t.2.2.2.1) (hi : i < t.2.2.2.1.length) : F_93f t (i : Int) = some (gl (wideL t) i) := by
  obtain ⟨r, c, f, l, ⟨⟩⟩ := t
  simp only at hl hi
  unfold F_93f F_911
  dsimp only
  rw [bif_dec, if_pos (by omega), Int.toNat_natCast, tor_eq f 2 0 (wl_get hl i)]
  simp only [Option.bind_some]
  unfold wideL
  have : gl ((List.range l.length).map fun i => widen f (l.getD i 0)) i = widen f (l.getD i 0) := by
    unfold gl; rw [List.getD_eq_getElem?_getD, List.getElem?_map, List.getElem?_range hi]; rfl
  rw [this]; rfl
def tk (a : TsT) : TsT := (a.1, (a.2.1, (a.2.2.1, ((List.take (List.length a.2.2.2.1) a.2.2.2.1), ()))))
theorem tk_id (a : TsT) : tk a = a := by unfold tk; rw [List.take_length]
theorem light_len {a : TsT} (h : F_912 a = some true) : a.2.2.2.1.length ≤ 60 := by
  unfold F_912 at h
  rw [bif_dec] at h
  by_cases k : ((List.length a.2.2.2.1 : Nat) : Int) ≤ 60
  · omega
  · rw [if_neg k] at h; cases h
theorem light_some (a : TsT) : ∃ b, F_912 a = some b := by
  unfold F_912
  simp only [bif_dec]
  (repeat' split) <;> exact ⟨_, rfl⟩
theorem tmod5 {a : Int} (h : 0 ≤ a) : ∃ n : Nat, IntKind.wrap .i64 (Int.tmod a 5) = n ∧ n ≤ 4 := by
  refine ⟨(a % 5).toNat, ?_, by omega⟩
  rw [tmod_nn h, wi64 (by omega)]; omega
end Go.Proofs.YtfpjkmgfkaoapaaGreat.VI

namespace Go.Proofs.YtfpjkmgfkaoapaaGreat.VI
set_option linter.unusedVariables false
set_option linter.unusedSimpArgs false
set_option maxRecDepth 100000
set_option maxHeartbeats 4000000
theorem narrowr_eq (f : Int) {a : Int} (ha : w32 a) : F_9f f a = some (narrow f a) := by
  unfold F_9f narrow; rw [tor_eq 2 f 0 ha]; rfl
theorem gl_mapA {h : Nat → Int} {n i : Nat} (hi : i < n) : gl ((List.range n).map h) i = h i := by
  unfold gl; rw [List.getD_eq_getElem?_getD]; simp [hi]
theorem wideL_get (t : TsT) {i : Nat} (h : i < t.2.2.2.1.length) : gl (wideL t) i = widen t.2.2.1 (t.2.2.2.1.getD i 0) := by
  unfold wideL; rw [gl_mapA h]
theorem act_k (k : Int) : F_928 k = some (decide (0 ≤ k ∧ k ≤ 3)) := by
  unfold F_928
  simp only [bif_dec]
  by_cases h : 0 ≤ k <;> simp [h]
theorem actr_k (k : Int) : F_93e k = some (decide (0 ≤ k ∧ k ≤ 3)) := act_k k
def fwdL (k : Int) (t : TsT) : List Int := (List.range t.2.2.2.1.length).map (fun i => narrow t.2.2.1 (valS k (widen t.2.2.1 (t.2.2.2.1.getD i 0))))
def fwdT (k : Int) (t : TsT) : TsT × Int × Unit := if rightS t then (if 0 ≤ k ∧ k ≤ 3 then ((t.1, t.2.1, t.2.2.1, fwdL k t, ()), 0, ()) else (noT, 22, ())) else (noT, 21, ())
theorem fwd_all (t : TsT) (k : Int) (hl : wl t.2.2.2.1) (hn : t.2.2.2.1.length ≤ 1073741824) : F_9e k t = some (fwdT k t) := by
  unfold fwdT
  by_cases hr : rightS t = true
  · rw [if_pos hr]
    by_cases hk : 0 ≤ k ∧ k ≤ 3
    · rw [if_pos hk, fwd_eq t k (valS k) (fun x hx => ⟨val_eq k hx, val_w k hx⟩) hl hn hk hr]; rfl
    · rw [if_neg hk]
      obtain ⟨r, c, f, l, ⟨⟩⟩ := t
      simp only at hl hn
      unfold F_9e
      dsimp only
      simp only [List.take_length]
      have e0 : List.getD [k] 0 0 = k := rfl
      rw [right_eq (r, c, f, l, ()) hl (by simp only; omega), hr, e0, act_k]
      simp only [Option.bind_some, Bool.not_true, cond_false]
      rw [decide_eq_false hk]; rfl
  · rw [if_neg hr]
    rw [Bool.not_eq_true] at hr
    obtain ⟨r, c, f, l, ⟨⟩⟩ := t
    simp only at hl hn
    unfold F_9e
    dsimp only
    simp only [List.take_length]
    rw [right_eq (r, c, f, l, ()) hl (by simp only; omega), hr]
    rfl
theorem fwdr_all (t : TsT) (k : Int) (hl : wl t.2.2.2.1) (hn : t.2.2.2.1.length ≤ 1073741824) : F_918 k t = some (fwdT k t) := by
  unfold fwdT
  obtain ⟨r, c, f, l, ⟨⟩⟩ := t
  simp only at hl hn
  by_cases hr : rightS (r, c, f, l, ()) = true
  · rw [if_pos hr]
    by_cases hk : 0 ≤ k ∧ k ≤ 3
    · rw [if_pos hk]
      have := lim_seq (st := st_918_0) (fun i => ((k, ((i : Int), ())), ((r, (c, (f, (l, ())))), (((0:Int), ((0:Int), ((0:Int), ()))), ((r, (c, (f, (l.length, ())))), (lay1 (fun i => narrow f (valS k (widen f (l.getD i 0)))) l.length i, ()))))))
        (b := ((), (((0:Int), ((0:Int), ((0:Int), ()))), ((r, (c, (f, (l.length, ())))), (lay1 (fun i => narrow f (valS k (widen f (l.getD i 0)))) l.length l.length, ()))))) l.length
        (fun i hi R kn ko => by
          have hll := lay1_len (fun i => narrow f (valS k (widen f (l.getD i 0)))) (Nat.le_of_lt hi)
          have hls := lay1_set (fun i => narrow f (valS k (widen f (l.getD i 0)))) hi
          have e1 := wider_eq (r, c, f, l, ()) (i := i) hl hi
          rw [wideL_get (r, c, f, l, ()) hi] at e1
          have hw := widen_w f (l.getD i 0)
          unfold st_918_0
          dsimp only at hls e1 ⊢
          simp only [List.take_length, bif_dec, hll, Int.toNat_natCast]
          rw [if_pos (show (i : Int) < (l.length : Int) by omega)]
          rw [show F_93f (r, (c, (f, (l, ())))) (i : Int) = _ from e1]
          simp only [Option.bind_some]
          rw [valr_eq k hw]
          simp only [Option.bind_some]
          rw [narrowr_eq f (val_w k hw)]
          simp only [Option.bind_some]
          rw [if_pos (show 0 ≤ (i : Int) ∧ (i : Int) < (l.length : Int) by omega), if_pos (show 0 + i * 1 < l.length by omega), show 0 + i * 1 = i by omega, hls, wi64 (by omega), show ((i + 1 : Nat) : Int) = (i : Int) + 1 by omega])
        (fun R kn ko => by
          unfold st_918_0
          dsimp only
          simp only [List.take_length, bif_dec]
          rw [if_neg (show ¬ (l.length : Int) < (l.length : Int) by omega)])
      rw [lay1_zero] at this
      unfold F_918
      dsimp only
      simp only [List.take_length, Int.toNat_natCast]
      rw [rightr_eq (r, c, f, l, ()) hl (by simp only; omega), hr, actr_k, decide_eq_true hk]
      simp only [Option.bind_some, Bool.not_true, cond_false, bif_dec]
      rw [if_pos (by omega)]
      have e : lim st_918_0 ((k, ((0 : Int), ())), ((r, (c, (f, (l, ())))), (((0:Int), ((0:Int), ((0:Int), ()))), ((r, (c, (f, (l.length, ())))), (List.replicate l.length 0, ()))))) = _ := this
      rw [e]
      simp only [Option.bind_some, List.drop_zero, lay1_all]
      rw [List.take_of_length_le (by simp)]
      rfl
    · rw [if_neg hk]
      unfold F_918
      dsimp only
      simp only [List.take_length]
      rw [rightr_eq (r, c, f, l, ()) hl (by simp only; omega), hr, actr_k, decide_eq_false hk]
      rfl
  · rw [if_neg hr]
    rw [Bool.not_eq_true] at hr
    unfold F_918
    dsimp only
    simp only [List.take_length]
    rw [rightr_eq (r, c, f, l, ()) hl (by simp only; omega), hr]
    rfl
end Go.Proofs.YtfpjkmgfkaoapaaGreat.VI

namespace Go.Proofs.YtfpjkmgfkaoapaaGreat.VI
set_option linter.unusedVariables false
set_option linter.unusedSimpArgs false
set_option maxRecDepth 100000
set_option maxHeartbeats 4000000
theorem word_same (s t n : Int) : F_91e s t n = F_945 s t n := by kernel_rfl
noncomputable def pnx (v : S_970_0) : S_970_0 := (st_970_0 S_970_0 v some (fun _ => none)).getD v
theorem pnx_eq {v : S_970_0} (h : v.1.1 < 10) (R : Type) (kn ko) : st_970_0 R v kn ko = kn (pnx v) := by
  unfold pnx st_970_0
  simp only [bif_dec]
  rw [if_pos h, if_pos h]; rfl
theorem pnx_cnt {v : S_970_0} (h : v.1.1 < 10) : (pnx v).1.1 = IntKind.wrap .i64 (v.1.1 + 1) := by
  unfold pnx st_970_0
  simp only [bif_dec]
  rw [if_pos h]; rfl
noncomputable def psq (v : S_970_0) : Nat → S_970_0
  | 0 => v
  | n + 1 => pnx (psq v n)
theorem psq_cnt {v : S_970_0} (h : v.1.1 = 0) : ∀ n : Nat, n ≤ 10 → (psq v n).1.1 = n
  | 0, _ => h
  | n + 1, k => by
    have := psq_cnt h n (by omega)
    show (pnx (psq v n)).1.1 = _
    have q : (n : Int) < 10 := by omega
    have q2 : IntKind.wrap .i64 ((n : Int) + 1) = ((n + 1 : Nat) : Int) := by rw [wi64 (by omega)]; omega
    rw [pnx_cnt (by rw [this]; exact q), this]; exact q2
theorem blk_some (k c : List Int) : ∃ v, F_970 k c = some v := by
  unfold F_970
  generalize hv : (((0:Int), ()), ([(List.getD k (0:Nat) (0:Int)), (List.getD k (1:Nat) (0:Int))], ([(List.getD c (0:Nat) (0:Int)), (List.getD c (1:Nat) (0:Int)), (List.getD c (2:Nat) (0:Int)), (List.getD c (3:Nat) (0:Int))], ([(0:Int), (0:Int), (0:Int), (0:Int)], ())))) = v0
  have h0 : v0.1.1 = (0 : Int) := by rw [← hv]
  have hl : ∃ b, ∀ (R : Type) (kn ko), st_970_0 R (psq v0 10) kn ko = ko b := by
    have := psq_cnt h0 10 (Nat.le_refl _)
    generalize psq v0 10 = v at *
    refine ⟨((), ([(List.getD v.2.2.1 (0:Nat) (0:Int)), (List.getD v.2.2.1 (1:Nat) (0:Int)), (List.getD v.2.2.1 (2:Nat) (0:Int)), (List.getD v.2.2.1 (3:Nat) (0:Int))], ([(List.getD v.2.2.2.1 (0:Nat) (0:Int)), (List.getD v.2.2.2.1 (1:Nat) (0:Int)), (List.getD v.2.2.2.1 (2:Nat) (0:Int)), (List.getD v.2.2.2.1 (3:Nat) (0:Int))], ()))), fun R kn ko => ?_⟩
    unfold st_970_0
    simp only [bif_dec]
    have q : ¬ ((10 : Nat) : Int) < 10 := by omega
    rw [if_neg (by rw [this]; exact q)]
  obtain ⟨b, hb⟩ := hl
  have := lim_seq (st := st_970_0) (psq v0) (b := b) 10
    (fun i hi R kn ko => by
      have q : (i : Int) < 10 := by omega
      exact pnx_eq (by rw [psq_cnt h0 i (by omega)]; exact q) R kn ko) hb
  have e : lim st_970_0 v0 = some b := this
  rw [e]
  exact ⟨_, rfl⟩
noncomputable def wordF (s t n : Int) : Int := (F_945 s t n).getD 0
theorem word_eq (s t : Int) {n : Int} (h : 0 ≤ n) : F_945 s t n = some (wordF s t n) := by
  have : ∃ w, F_945 s t n = some w := by
    unfold F_945
    dsimp only
    obtain ⟨v, hv⟩ := blk_some [(IntKind.wrap .u32 s), (IntKind.wrap .u32 (s / (4294967296:Int)))] [(IntKind.wrap .u32 (IntKind.wrap .u64 (Int.tdiv n (4:Int)))), (IntKind.wrap .u32 ((IntKind.wrap .u64 (Int.tdiv n (4:Int))) / (4294967296:Int))), t, (0:Int)]
    rw [hv]
    simp only [Option.bind_some, bif_dec, tmod_nn h]
    rw [if_pos (by omega)]
    have hc : n % 4 = 0 ∨ n % 4 = 1 ∨ n % 4 = 2 ∨ n % 4 = 3 := by omega
    rcases hc with e | e | e | e <;> rw [e] <;> exact ⟨_, rfl⟩
  obtain ⟨w, hw⟩ := this
  unfold wordF; rw [hw]; rfl
theorem lay1_same (h : Nat → Int) {n i : Nat} (hi : i < n) (h0 : h i = 0) : lay1 h n (i + 1) = lay1 h n i := by
  unfold lay1
  rw [List.range_succ, List.map_append, show n - i = (n - (i + 1)) + 1 by omega, List.replicate_succ]
  simp [h0]
def nwX (a b : Int) : Nat := if min (max a 0) 4096 * min (max b 0) 4096 > 262144 then 0 else (min (max a 0) 4096).toNat
def nwY (a b : Int) : Nat := if min (max a 0) 4096 * min (max b 0) 4096 > 262144 then 0 else (min (max b 0) 4096).toNat
theorem nw_bd (a b : Int) : nwX a b ≤ 4096 ∧ nwY a b ≤ 4096 ∧ nwX a b * nwY a b ≤ 262144 := by
  unfold nwX nwY
  by_cases h : min (max a 0) 4096 * min (max b 0) 4096 > 262144
  · rw [if_pos h, if_pos h]; decide
  · rw [if_neg h, if_neg h]
    refine ⟨by omega, by omega, ?_⟩
    have e1 : ((min (max a 0) 4096).toNat : Int) = min (max a 0) 4096 := by omega
    have e2 : ((min (max b 0) 4096).toNat : Int) = min (max b 0) 4096 := by omega
    have : (((min (max a 0) 4096).toNat * (min (max b 0) 4096).toNat : Nat) : Int) ≤ 262144 := by
      rw [Int.natCast_mul, e1, e2]; omega
    omega
theorem nw_core (a b : Int) : (bif (decide ((IntKind.wrap .i64 ((mn (mx a (0:Int)) (4096:Int)) * (mn (mx b (0:Int)) (4096:Int)))) > (262144:Int))) then (0:Int) else (mn (mx a (0:Int)) (4096:Int))) = (nwX a b : Int)
    ∧ (bif (decide ((IntKind.wrap .i64 ((mn (mx a (0:Int)) (4096:Int)) * (mn (mx b (0:Int)) (4096:Int)))) > (262144:Int))) then (0:Int) else (mn (mx b (0:Int)) (4096:Int))) = (nwY a b : Int) := by
  simp only [mn_eq, mx_eq, bif_dec]
  have b1 : 0 ≤ min (max a 0) 4096 ∧ min (max a 0) 4096 ≤ 4096 := by omega
  have b2 : 0 ≤ min (max b 0) 4096 ∧ min (max b 0) 4096 ≤ 4096 := by omega
  unfold nwX nwY
  generalize min (max a 0) 4096 = x at *
  generalize min (max b 0) 4096 = y at *
  have p1 : 0 ≤ x * y := Int.mul_nonneg b1.1 b2.1
  have p2 : x * y ≤ 4096 * 4096 := Int.mul_le_mul b1.2 b2.2 b2.1 (by decide)
  rw [wi64 (by omega)]
  by_cases h : x * y > 262144
  · simp [h]
  · simp only [h, if_false]; omega
theorem new_eq (a b : Int) : F_943 a b 2 = some ((nwX a b : Int), (nwY a b : Int), 2, List.replicate (nwX a b * nwY a b) 0, ()) := by
  obtain ⟨e1, e2⟩ := nw_core a b
  obtain ⟨b1, b2, b3⟩ := nw_bd a b
  unfold F_943
  dsimp only
  rw [e1, e2, known_t]
  simp only [Option.bind_some]
  rw [wi64 (n := (nwX a b : Int) * (nwY a b : Int)) (by have : ((nwX a b : Int) * (nwY a b : Int)) = ((nwX a b * nwY a b : Nat) : Int) := by simp
                                                        omega)]
  have e3 : ((nwX a b : Int) * (nwY a b : Int)) = ((nwX a b * nwY a b : Nat) : Int) := by simp
  rw [e3, bif_dec, if_pos (by omega), Int.toNat_natCast]
  have : knownS 2 = true := by decide
  rw [this]
  simp
theorem newk_eq (a b : Int) : F_9bb a b 2 = some (((nwX a b : Int), (nwY a b : Int), 2, nwX a b * nwY a b, ()), (List.replicate (nwX a b * nwY a b) 0, ())) := by
  obtain ⟨e1, e2⟩ := nw_core a b
  obtain ⟨b1, b2, b3⟩ := nw_bd a b
  unfold F_9bb
  dsimp only
  rw [e1, e2, known_r]
  simp only [Option.bind_some]
  have e3 : ((nwX a b : Int) * (nwY a b : Int)) = ((nwX a b * nwY a b : Nat) : Int) := by simp
  rw [e3, wi64 (by omega), bif_dec, if_pos (by omega), Int.toNat_natCast]
  have : knownS 2 = true := by decide
  rw [this]
  rfl
noncomputable def mkM (d : Int) : Int := divf 1333788672 (intf (4294967296 - d))
noncomputable def mkH (d s t : Int) (i : Nat) : Int := if wordF s t (i : Int) < d then 0 else mkM d
noncomputable def mkT (a b d s t : Int) : TsT := ((nwX a b : Int), (nwY a b : Int), 2, (List.range (nwX a b * nwY a b)).map (mkH d s t), ())
theorem eachD_eq (t : TsT) (d s u m : Int) (hn : t.2.2.2.1.length ≤ 1073741824) :
    ∃ z, F_9ba t 2 [s] [u] [d] [m] = some ((t.1, t.2.1, 2, (List.range t.2.2.2.1.length).map (fun (i : Nat) => if wordF s u (i : Int) < d then 0 else m), ()), z) := by
  obtain ⟨r, c, f, l, ⟨⟩⟩ := t
  simp only at hn ⊢
  have := lim_seq (st := st_9ba_0) (fun i => ((l, ((l.length : Int), ((i : Int), ()))), ([s], ([u], ([d], ([m], (((0:Int), ((0:Int), ((0:Int), ()))), ((r, (c, ((2 : Int), (l.length, ())))), (lay1 (fun (i : Nat) => if wordF s u (i : Int) < d then 0 else m) l.length i, ())))))))))
    (b := ((), ([s], ([u], ([d], ([m], (((0:Int), ((0:Int), ((0:Int), ()))), ((r, (c, ((2 : Int), (l.length, ())))), (lay1 (fun (i : Nat) => if wordF s u (i : Int) < d then 0 else m) l.length l.length, ()))))))))) l.length
    (fun i hi R kn ko => by
      have hll := lay1_len (fun (i : Nat) => if wordF s u (i : Int) < d then 0 else m) (Nat.le_of_lt hi)
      have hls := lay1_set (fun (i : Nat) => if wordF s u (i : Int) < d then 0 else m) hi
      have e0 : ∀ x : Int, List.getD [x] 0 0 = x := fun x => rfl
      have ew := word_eq s u (n := (i : Int)) (by omega)
      unfold st_9ba_0 F_944
      dsimp only at hls ⊢
      simp only [List.take_length, bif_dec, hll, Int.toNat_natCast, List.length_singleton, e0]
      rw [if_pos (show (i : Int) < (l.length : Int) by omega), if_pos (show 0 ≤ (i : Int) ∧ (i : Int) < (l.length : Int) by omega)]
      simp only [show (0 : Nat) < 1 by decide, if_true]
      rw [wu64 (n := (i : Int)) (by omega), ew]
      simp only [Option.bind_some]
      have hw : (if wordF s u (i : Int) < d then (some ((0:Int), [s], [u], [d], [m], ())) else some (m, [s], [u], [d], [m], ())) = some ((if wordF s u (i : Int) < d then 0 else m), [s], [u], [d], [m], ()) := by split <;> rfl
      rw [hw]
      simp only [Option.bind_some]
      rw [if_pos (show (0 : Int) ≤ (i : Int) ∧ (i : Int) < (l.length : Int) by omega), if_pos (show 0 + i * 1 < l.length by omega), show 0 + i * 1 = i by omega, hls, wi64 (by omega), show ((i + 1 : Nat) : Int) = (i : Int) + 1 by omega])
    (fun R kn ko => by
      unfold st_9ba_0
      dsimp only
      simp only [List.take_length, bif_dec]
      rw [if_neg (by omega)])
  rw [lay1_zero] at this
  unfold F_9ba
  dsimp only
  simp only [List.take_length, bif_dec, Int.toNat_natCast]
  rw [if_pos (by omega)]
  have e : lim st_9ba_0 ((l, ((l.length : Int), ((0 : Int), ()))), ([s], ([u], ([d], ([m], (((0:Int), ((0:Int), ((0:Int), ()))), ((r, (c, ((2 : Int), (l.length, ())))), (List.replicate l.length 0, ())))))))) = _ := this
  rw [e]
  simp only [Option.bind_some, List.take_length, List.drop_zero, lay1_all]
  rw [List.take_of_length_le (by simp)]
  exact ⟨_, rfl⟩
theorem mask_eqA (a b s t : Int) {d : Int} (hd : w32 d) : F_91c a b d s t = some (mkT a b d s t) := by
  have d0 := hd.1
  have d1 := hd.2
  obtain ⟨b1, b2, b3⟩ := nw_bd a b
  unfold F_91c
  have e0 : List.getD [d] 0 0 = d := rfl
  rw [e0, wi64 (n := d) (by omega), wi64 (by omega), fsint_eq (by omega)]
  simp only [Option.bind_some]
  rw [fdiv_eq (wlit rfl) (intf_w _), new_eq]
  simp only [Option.bind_some, List.take_length]
  obtain ⟨z, hz⟩ := eachD_eq ((nwX a b : Int), (nwY a b : Int), 2, List.replicate (nwX a b * nwY a b) 0, ()) d s t (divf 1333788672 (intf (4294967296 - d))) (by simp; omega)
  rw [hz]
  simp only [Option.bind_some, List.take_length, List.length_replicate]
  rfl
theorem maskr_eqA (a b s t : Int) {d : Int} (hd : w32 d) : F_91d a b d s t = some (mkT a b d s t) := by
  have d0 := hd.1
  have d1 := hd.2
  obtain ⟨b1, b2, b3⟩ := nw_bd a b
  have c1 : intf 4294967296 = 1333788672 := by decide +kernel
  unfold F_91d
  rw [newk_eq, rint_eq (by omega), c1, wi64 (n := d) (by omega), wi64 (by omega), rint_eq (by omega)]
  simp only [Option.bind_some]
  rw [rdiv_eq (wlit rfl) (intf_w _)]
  simp only [Option.bind_some]
  unfold mkT
  generalize nwX a b * nwY a b = N at *
  have := lim_seq (st := st_91d_0) (fun i => ((d, (s, (t, (mkM d, ((i : Int), ()))))), (((0:Int), ((0:Int), ((0:Int), ()))), (((nwX a b : Int), ((nwY a b : Int), ((2 : Int), (N, ())))), (lay1 (mkH d s t) N i, ())))))
    (b := ((), (((0:Int), ((0:Int), ((0:Int), ()))), (((nwX a b : Int), ((nwY a b : Int), ((2 : Int), (N, ())))), (lay1 (mkH d s t) N N, ()))))) N
    (fun i hi R kn ko => by
      have hll := lay1_len (mkH d s t) (Nat.le_of_lt hi)
      have hls := lay1_set (mkH d s t) hi
      have ew := word_eq s t (n := (i : Int)) (by omega)
      unfold st_91d_0
      dsimp only
      simp only [bif_dec, hll, Int.toNat_natCast]
      rw [if_pos (show (i : Int) < (N : Int) by omega), wu64 (n := (i : Int)) (by omega), word_same, ew]
      simp only [Option.bind_some]
      rw [wi64 (n := (i : Int) + 1) (by omega), show ((i + 1 : Nat) : Int) = (i : Int) + 1 by omega]
      by_cases hw : wordF s t (i : Int) < d
      · have h0 : mkH d s t i = 0 := by unfold mkH; rw [if_pos hw]
        rw [if_neg (show ¬ wordF s t (i : Int) ≥ d by omega), lay1_same (mkH d s t) hi h0]
      · have h0 : mkH d s t i = mkM d := by unfold mkH; rw [if_neg hw]
        rw [if_pos (show wordF s t (i : Int) ≥ d by omega), if_pos (show 0 ≤ (i : Int) ∧ (i : Int) < (N : Int) by omega), if_pos (show 0 + i * 1 < N by omega), show 0 + i * 1 = i by omega, ← hls, h0])
    (fun R kn ko => by
      unfold st_91d_0
      dsimp only
      simp only [bif_dec]
      rw [if_neg (show ¬ (N : Int) < (N : Int) by omega)])
  rw [lay1_zero] at this
  have e : lim st_91d_0 ((d, (s, (t, (divf 1333788672 (intf (4294967296 - d)), ((0 : Int), ()))))), (((0:Int), ((0:Int), ((0:Int), ()))), (((nwX a b : Int), ((nwY a b : Int), ((2 : Int), (N, ())))), (List.replicate N 0, ())))) = _ := this
  rw [e]
  simp only [Option.bind_some, List.drop_zero, lay1_all]
  rw [List.take_of_length_le (by simp)]
end Go.Proofs.YtfpjkmgfkaoapaaGreat.VI

namespace Go.Proofs.YtfpjkmgfkaoapaaGreat.VI
set_option linter.unusedVariables false
set_option linter.unusedSimpArgs false
set_option maxRecDepth 100000
set_option maxHeartbeats 8000000
set_option exponentiation.threshold 2000
theorem pk_sticky (n : Bool) (e : Int) {X : Int} (hX : 16777216 ≤ X) : pk 2 0 n e X true = pk 2 0 n (e - 1) (2 * X + 1) false := by
  have h := pk_coarse 2 0 n (e - 1) (2 * X + 1) 1 false (by rw [show BB 2 = 8388608 from rfl, show (2 : Int) ^ 1 = 2 from rfl]; omega)
  rw [show (2 : Int) ^ 1 = 2 from rfl, show (2 * X + 1) / 2 = X by omega, show (2 * X + 1) % 2 = 1 by omega, show e - 1 + ((1 : Nat) : Int) = e by omega] at h
  exact h
theorem pk_even (n : Bool) (e : Int) {X : Int} (hX : 16777216 ≤ X) : pk 2 0 n e X false = pk 2 0 n (e - 1) (2 * X) false := by
  have h := pk_coarse 2 0 n (e - 1) (2 * X) 1 false (by rw [show BB 2 = 8388608 from rfl, show (2 : Int) ^ 1 = 2 from rfl]; omega)
  rw [show (2 : Int) ^ 1 = 2 from rfl, show (2 * X) / 2 = X by omega, show (2 * X) % 2 = 0 by omega, show e - 1 + ((1 : Nat) : Int) = e by omega] at h
  exact h
theorem div_mag {a b : Int} (fa : fnt a) (fb : fnt b) (za : zr 2 a = false) (zb : zr 2 b = false) (he : -290 ≤ xp 2 a - (61 - lg (sig 2 a)) - xp 2 b) :
    ∃ M : Int, 0 ≤ M ∧ M ≤ 2139095040 ∧ divf a b = sgn 2 (!(sg 2 a == sg 2 b)) + M
      ∧ (∀ c, 0 ≤ c → c < 2139095040 → mv a * 2 ^ 149 ≤ mv c * mv b → M ≤ c)
      ∧ (∀ c, 0 ≤ c → c < 2139095040 → mv c * mv b ≤ mv a * 2 ^ 149 → c ≤ M) := by
  have na := fin_nan fa
  have nb := fin_nan fb
  have ia := fin_inf fa
  have ib := fin_inf fb
  have sa : 0 < sig 2 a := by
    have := (sig_zero 2 a na ia).1
    have h0 := (sig_bd 2 a).1
    have h1 : sig 2 a ≠ 0 := fun k => by rw [this k] at za; cases za
    omega
  have sb : 0 < sig 2 b := by
    have := (sig_zero 2 b nb ib).1
    have h0 := (sig_bd 2 b).1
    have h1 : sig 2 b ≠ 0 := fun k => by rw [this k] at zb; cases zb
    omega
  have sa2 := (sig_bd 2 a).2
  have sb2 := (sig_bd 2 b).2
  rw [show BB 2 = 8388608 from rfl] at sa2 sb2
  have xa := xp_bd 2 a
  have xb := xp_bd 2 b
  have hd : divf a b = (pk 2 0 (!(sg 2 a == sg 2 b)) (xp 2 a - (61 - lg (sig 2 a)) - xp 2 b) (sig 2 a * 2 ^ (61 - lg (sig 2 a)) / sig 2 b) (decide (sig 2 a * 2 ^ (61 - lg (sig 2 a)) % sig 2 b ≠ 0))).1 := by
    unfold divf divS
    rw [na, nb, ia, ib, za, zb]
    rfl
  have xaL := Int.le_refl (mv a)
  have eA : mv a = sig 2 a * 2 ^ (xp 2 a + 149).toNat := rfl
  have eB : mv b = sig 2 b * 2 ^ (xp 2 b + 149).toNat := rfl
  have hxa : -149 ≤ xp 2 a := by omega
  have hxb : -149 ≤ xp 2 b := by omega
  have hlg : lg (sig 2 a) < 24 := lg_bd sa (by have : (2 : Int) ^ 24 = 16777216 := rfl; omega)
  have hlt := lg_le sa
  rw [hd]
  generalize (!(sg 2 a == sg 2 b)) = n
  generalize sig 2 a = A at *
  generalize sig 2 b = B at *
  generalize xp 2 a = x at *
  generalize xp 2 b = y at *
  obtain ⟨s, hs⟩ : ∃ s : Nat, s = 61 - lg A := ⟨_, rfl⟩
  have hsI : (61 - (lg A : Int)) = (s : Int) := by omega
  rw [hsI] at he ⊢
  rw [← hs]
  have ps := p2_pos s
  have hW : 2 ^ 61 ≤ A * 2 ^ s := by
    have := Int.mul_le_mul_of_nonneg_right hlt (Int.le_of_lt ps)
    rwa [← p2_add, show lg A + s = 61 by omega] at this
  have dm := Int.mul_ediv_add_emod (A * 2 ^ s) B
  have m0 := Int.emod_nonneg (A * 2 ^ s) (show B ≠ 0 by omega)
  have m1 := Int.emod_lt_of_pos (A * 2 ^ s) sb
  have hX : 2 ^ 37 ≤ A * 2 ^ s / B := by
    rw [Int.le_ediv_iff_mul_le sb]
    have c1 : (2 : Int) ^ 37 = 137438953472 := rfl
    have c2 : (2 : Int) ^ 61 = 2305843009213693952 := rfl
    omega
  generalize hq : A * 2 ^ s / B = X at *
  generalize hr : A * 2 ^ s % B = R at *
  have c37 : (2 : Int) ^ 37 = 137438953472 := rfl
  obtain ⟨t, ht0, hp⟩ : ∃ t : Int, (t = (if R = 0 then 0 else 1)) ∧ pk 2 0 n (x - s - y) X (decide (R ≠ 0)) = pk 2 0 n (x - s - y - 1) (2 * X + t) false := by
    by_cases k : R = 0
    · refine ⟨0, by rw [if_pos k], ?_⟩
      rw [show decide (R ≠ 0) = false by simp [k], pk_even n _ (by omega), Int.add_zero]
    · refine ⟨1, by rw [if_neg k], ?_⟩
      rw [show decide (R ≠ 0) = true by simp [k], pk_sticky n _ (by omega)]
  have htb : 0 ≤ t ∧ t ≤ 1 := by rw [ht0]; split <;> omega
  rw [hp]
  obtain ⟨M, M0, M1, hM, up, dn⟩ := rnd_mag n (e := x - s - y - 1) (N := 2 * X + t) (by omega) (by omega)
  refine ⟨M, M0, M1, hM, ?_, ?_⟩
  · intro c h0 h1 hc
    apply up c h0 h1
    obtain ⟨b1, b2, b3, b4, b5, b6⟩ := code_parts h0 h1
    rw [mv_up]
    have eC : mv c = sig 2 c * 2 ^ (xp 2 c + 149).toNat := rfl
    rw [eA, eB, eC] at hc
    generalize sig 2 c = S at *
    generalize xp 2 c = Y at *
    have p1 := p2_pos (x + 149).toNat
    have hc2 : (A * 2 ^ s) * 2 ^ (x - s - y + 298).toNat ≤ S * B * 2 ^ (Y + 298).toNat := by
      have k := Int.mul_le_mul_of_nonneg_right hc (show (0 : Int) ≤ 2 ^ 600 by have := p2_pos 600; omega)
      have e1 : A * 2 ^ (x + 149).toNat * 2 ^ 149 * 2 ^ 600 = (A * 2 ^ s) * 2 ^ (x - s - y + 298).toNat * 2 ^ (y + 600).toNat := by
        simp only [Int.mul_assoc]; congr 1
        rw [← p2_add, ← p2_add, ← p2_add, ← p2_add]; congr 1; omega
      have e2 : S * 2 ^ (Y + 149).toNat * (B * 2 ^ (y + 149).toNat) * 2 ^ 600 = S * B * 2 ^ (Y + 298).toNat * 2 ^ (y + 600).toNat := by
        rw [show S * 2 ^ (Y + 149).toNat * (B * 2 ^ (y + 149).toNat) * 2 ^ 600 = S * B * (2 ^ (Y + 149).toNat * (2 ^ (y + 149).toNat * 2 ^ 600)) by
          simp only [Int.mul_assoc, Int.mul_left_comm, Int.mul_comm]]
        rw [Int.mul_assoc (S * B)]; congr 1
        rw [← p2_add, ← p2_add, ← p2_add]; congr 1; omega
      rw [e1, e2] at k
      exact Int.le_of_mul_le_mul_right k (p2_pos _)
    have hY : x - s - y ≤ Y := by
      apply Int.le_of_not_gt; intro k
      obtain ⟨d, hd⟩ : ∃ d : Nat, (x - s - y + 298).toNat = d + (Y + 298).toNat := ⟨(x - s - y - Y).toNat, by omega⟩
      rw [hd, p2_add, ← Int.mul_assoc] at hc2
      have k1 := Int.le_of_mul_le_mul_right hc2 (p2_pos _)
      have k2 : A * 2 ^ s * 1 ≤ A * 2 ^ s * 2 ^ d := Int.mul_le_mul_of_nonneg_left (by have := p2_pos d; omega) (by have := p2_pos 61; omega)
      have k3 : S * B ≤ 16777216 * B := Int.mul_le_mul_of_nonneg_right (by omega) (by omega)
      have c2 : (2 : Int) ^ 61 = 2305843009213693952 := rfl
      omega
    obtain ⟨d, hd⟩ : ∃ d : Nat, (Y + 298).toNat = d + (x - s - y + 298).toNat := ⟨(Y - (x - s - y)).toNat, by omega⟩
    rw [hd, p2_add, ← Int.mul_assoc] at hc2
    have k1 := Int.le_of_mul_le_mul_right hc2 (p2_pos _)
    rw [show S * B * 2 ^ d = B * (S * 2 ^ d) by simp only [Int.mul_assoc, Int.mul_left_comm, Int.mul_comm], ← dm] at k1
    have k2 : X + t ≤ S * 2 ^ d := by
      apply Int.le_of_not_gt; intro k
      have : S * 2 ^ d + 1 ≤ X + t := k
      by_cases r0 : R = 0
      · rw [if_pos r0] at ht0
        have := Int.mul_le_mul_of_nonneg_left (show S * 2 ^ d + 1 ≤ X by omega) (show 0 ≤ B by omega)
        rw [Int.mul_add, Int.mul_one] at this; omega
      · rw [if_neg r0] at ht0
        have := Int.mul_le_mul_of_nonneg_left (show S * 2 ^ d ≤ X by omega) (show 0 ≤ B by omega)
        omega
    obtain ⟨z, hz⟩ : ∃ z : Nat, (x - s - y - 1 + 298).toNat = z := ⟨_, rfl⟩
    have hz2 : (x - s - y + 298).toNat = z + 1 := by omega
    rw [hd, hz, p2_add, hz2, p2_succ]
    have := Int.mul_le_mul_of_nonneg_right (show 2 * X + t ≤ 2 * (S * 2 ^ d) by omega) (Int.le_of_lt (p2_pos z))
    rw [show S * (2 ^ d * (2 * 2 ^ z)) = 2 * (S * 2 ^ d) * 2 ^ z by simp only [Int.mul_assoc, Int.mul_left_comm, Int.mul_comm]]
    exact this
  · intro c h0 h1 hc
    apply dn c h0 h1
    obtain ⟨b1, b2, b3, b4, b5, b6⟩ := code_parts h0 h1
    rw [mv_up]
    have eC : mv c = sig 2 c * 2 ^ (xp 2 c + 149).toNat := rfl
    rw [eA, eB, eC] at hc
    generalize sig 2 c = S at *
    generalize xp 2 c = Y at *
    have hc2 : S * B * 2 ^ (Y + 298).toNat ≤ (A * 2 ^ s) * 2 ^ (x - s - y + 298).toNat := by
      have k := Int.mul_le_mul_of_nonneg_right hc (show (0 : Int) ≤ 2 ^ 600 by have := p2_pos 600; omega)
      have e1 : A * 2 ^ (x + 149).toNat * 2 ^ 149 * 2 ^ 600 = (A * 2 ^ s) * 2 ^ (x - s - y + 298).toNat * 2 ^ (y + 600).toNat := by
        simp only [Int.mul_assoc]; congr 1
        rw [← p2_add, ← p2_add, ← p2_add, ← p2_add]; congr 1; omega
      have e2 : S * 2 ^ (Y + 149).toNat * (B * 2 ^ (y + 149).toNat) * 2 ^ 600 = S * B * 2 ^ (Y + 298).toNat * 2 ^ (y + 600).toNat := by
        rw [show S * 2 ^ (Y + 149).toNat * (B * 2 ^ (y + 149).toNat) * 2 ^ 600 = S * B * (2 ^ (Y + 149).toNat * (2 ^ (y + 149).toNat * 2 ^ 600)) by
          simp only [Int.mul_assoc, Int.mul_left_comm, Int.mul_comm]]
        rw [Int.mul_assoc (S * B)]; congr 1
        rw [← p2_add, ← p2_add, ← p2_add]; congr 1; omega
      rw [e1, e2] at k
      exact Int.le_of_mul_le_mul_right k (p2_pos _)
    obtain ⟨z, hz⟩ : ∃ z : Nat, (x - s - y - 1 + 298).toNat = z := ⟨_, rfl⟩
    have hz2 : (x - s - y + 298).toNat = z + 1 := by omega
    rw [hz]
    by_cases hY : x - s - y ≤ Y
    · obtain ⟨d, hd⟩ : ∃ d : Nat, (Y + 298).toNat = d + (x - s - y + 298).toNat := ⟨(Y - (x - s - y)).toNat, by omega⟩
      rw [hd, p2_add, ← Int.mul_assoc] at hc2
      have k1 := Int.le_of_mul_le_mul_right hc2 (p2_pos _)
      rw [show S * B * 2 ^ d = B * (S * 2 ^ d) by simp only [Int.mul_assoc, Int.mul_left_comm, Int.mul_comm], ← dm] at k1
      have k2 : S * 2 ^ d ≤ X := by
        apply Int.le_of_not_gt; intro k
        have := Int.mul_le_mul_of_nonneg_left (show X + 1 ≤ S * 2 ^ d by omega) (show 0 ≤ B by omega)
        rw [Int.mul_add, Int.mul_one] at this; omega
      rw [hd, p2_add, hz2, p2_succ]
      rw [show S * (2 ^ d * (2 * 2 ^ z)) = 2 * (S * 2 ^ d) * 2 ^ z by simp only [Int.mul_assoc, Int.mul_left_comm, Int.mul_comm]]
      exact Int.mul_le_mul_of_nonneg_right (by omega) (Int.le_of_lt (p2_pos z))
    · obtain ⟨d, hd⟩ : ∃ d : Nat, z = d + (Y + 298).toNat := ⟨(x - s - y - 1 - Y).toNat, by omega⟩
      rw [hd, p2_add, ← Int.mul_assoc]
      apply Int.mul_le_mul_of_nonneg_right _ (Int.le_of_lt (p2_pos _))
      have : (2 * X + t) * 1 ≤ (2 * X + t) * 2 ^ d := Int.mul_le_mul_of_nonneg_left (by have := p2_pos d; omega) (by omega)
      omega
end Go.Proofs.YtfpjkmgfkaoapaaGreat.VI

namespace Go.Proofs.YtfpjkmgfkaoapaaGreat.VI
set_option linter.unusedVariables false
set_option linter.unusedSimpArgs false
set_option maxRecDepth 100000
set_option maxHeartbeats 8000000
set_option exponentiation.threshold 2000
theorem code_fnt {c : Int} (h0 : 0 ≤ c) (h1 : c < 2139095040) : fnt c ∧ vz c = mv c := ⟨⟨⟨h0, by omega⟩, by omega⟩, vz_pos ⟨h0, by omega⟩ (by omega)⟩
theorem mv_lt {a b : Int} (h0 : 0 ≤ a) (h : a < b) (h1 : b < 2139095040) : mv a < mv b := by
  obtain ⟨a1, a2, a3, a4, a5, a6⟩ := code_parts h0 (by omega : a < 2139095040)
  obtain ⟨b1, b2, b3, b4, b5, b6⟩ := code_parts (by omega : 0 ≤ b) h1
  unfold mv
  generalize sig 2 a = S at *
  generalize sig 2 b = R at *
  generalize xp 2 a = x at *
  generalize xp 2 b = y at *
  have px := p2_pos (x + 149).toNat
  by_cases k : x = y
  · subst k
    exact Int.mul_lt_mul_of_pos_right (by omega) px
  · obtain ⟨d, hd⟩ : ∃ d : Nat, (y + 149).toNat = (d + 1) + (x + 149).toNat := ⟨(y - x - 1).toNat, by omega⟩
    rw [hd, p2_add, ← Int.mul_assoc]
    apply Int.mul_lt_mul_of_pos_right _ px
    rw [p2_succ]
    have := Int.mul_le_mul_of_nonneg_left (show (1 : Int) ≤ 2 ^ d by have := p2_pos d; omega) (show 0 ≤ 2 * R by omega)
    rw [show R * (2 * 2 ^ d) = 2 * R * 2 ^ d by simp only [Int.mul_assoc, Int.mul_left_comm, Int.mul_comm]]
    omega
theorem mv_code_le {a b : Int} (h0 : 0 ≤ a) (h1 : b < 2139095040) (hb : 0 ≤ b) (h2 : a < 2139095040) (h : mv a ≤ mv b) : a ≤ b := by
  apply Int.le_of_not_gt; intro k
  have := mv_lt hb k h2; omega
end Go.Proofs.YtfpjkmgfkaoapaaGreat.VI

namespace Go.Proofs.YtfpjkmgfkaoapaaGreat.VI
set_option linter.unusedVariables false
set_option linter.unusedSimpArgs false
set_option maxRecDepth 100000
noncomputable def O_9b : Orc := (orm c_9c (orm c_91c (orm c_91e c_91f)))
theorem okO_9b : OrcOk PR O_9b := (orm_ok ok_9c (orm_ok ok_91c (orm_ok ok_91e ok_91f)))
abbrev fa_9b : Fm := (.pair (.i .u8) (.pair (.i .u8) (.pair (.i .u32) (.pair (.i .u64) (.pair (.i .u32) .unit)))))
abbrev ha_9b : List BF := []
abbrev fr_9b : Fm := .b
abbrev hr_9b : List BF := []
abbrev ff_9b_0 : Fm := (.us 2 (.pair (.i .u32) (.pair (.i .u64) (.pair (.i .u32) (.us 6 (.pair (.i .i64) (.pair (.i .i64) (.cst (.ref 0 1 0) (.cst (.ref 1 1 0) (.pair (.i .i64) (.us 82 .unit)))))))))))
abbrev hf_9b_0 : List BF := [(.list 1 y_91 true (.pair (.i .i64) (.pair (.i .i64) (.pair (.i .i64) (.pair (.si .u32) .unit))))), (.list 1 y_91 true (.pair (.i .i64) (.pair (.i .i64) (.pair (.i .i64) (.pair (.si .u32) .unit)))))]
abbrev X_9b_0 : Xs := (.alt (.exit 0) [] (.us 98 .unit) [] (.one .ret [10] (.us 10 (.pair .b (.us 87 .unit))) []))
abbrev S_9b_0 : Type := T ff_9b_0 × TH hf_9b_0
abbrev E_9b_0 : Type := TX X_9b_0
noncomputable def LB_9b_0 : Lps := L0
noncomputable def st_9b_0 : StepT S_9b_0 E_9b_0 := fun R v kn ko =>
 let x0 : Int := v.1.2.1
 let x1 : Int := v.1.2.2.1
 let x2 : Int := v.1.2.2.2.2.2.1
 let x3 : List Int := v.2.1.2.2.2.1
 let x4 : Nat := (Int.toNat x2)
 let x5 : Int := (List.getD x3 x4 (0:Int))
 let x6 : List Int := v.2.2.1.2.2.2.1
 bif (decide (x2 < (IntKind.wrap .i64 (v.1.2.2.2.1 * v.1.2.2.2.2.1)))) then
 bif (decide (((0:Int) ≤ x2) ∧ (x2 < (((List.length x3) : Nat) : Int)))) then
 ((F_91e x0 x1 (IntKind.wrap .u64 x2))).bind fun r7 =>
 bif (!((x5 == (0:Int)) == (decide (r7 < (v.1.1 / (2:Int)))))) then
 (ko (Sum.inr ((false, ()), ())))
 else
 bif (decide (((0:Int) ≤ x2) ∧ (x2 < (((List.length x6) : Nat) : Int)))) then
 bif ((List.getD x6 x4 (0:Int)) != (1065353216:Int)) then
 (ko (Sum.inr ((false, ()), ())))
 else
 bif (decide (((0:Int) ≤ x2) ∧ (x2 < (((List.length x3) : Nat) : Int)))) then
 ((F_91f (1065353216:Int) x5)).bind fun r8 =>
 bif r8 then
 bif (decide (((0:Int) ≤ x2) ∧ (x2 < (((List.length x3) : Nat) : Int)))) then
 bif (x5 != (0:Int)) then
 (ko (Sum.inr ((false, ()), ())))
 else
 (kn ((v.1.1, (x0, (x1, (v.1.2.2.2.1, (v.1.2.2.2.2.1, ((IntKind.wrap .i64 (x2 + (1:Int))), ())))))), ((v.2.1.1, (v.2.1.2.1, (v.2.1.2.2.1, ((List.take (List.length x3) x3), ())))), ((v.2.2.1.1, (v.2.2.1.2.1, (v.2.2.1.2.2.1, ((List.take (List.length x6) x6), ())))), ()))))
 else
 none
 else
 (kn ((v.1.1, (x0, (x1, (v.1.2.2.2.1, (v.1.2.2.2.2.1, ((IntKind.wrap .i64 (x2 + (1:Int))), ())))))), ((v.2.1.1, (v.2.1.2.1, (v.2.1.2.2.1, ((List.take (List.length x3) x3), ())))), ((v.2.2.1.1, (v.2.2.1.2.1, (v.2.2.1.2.2.1, ((List.take (List.length x6) x6), ())))), ()))))
 else
 none
 else
 none
 else
 none
 else
 (ko (Sum.inl ((), ())))
noncomputable def ls_9b_0 : St → LTr := (lsum ff_9b_0 hf_9b_0 X_9b_0 Prod.mk id st_9b_0 (hd [] [] [2, 3, 4, 11, 12, 13, 14, 15] 0))
theorem lp_9b_0 : LoopOk PR 0 (lpN f_9b 0) ls_9b_0 := loopT okO_9b mixed (L := LB_9b_0) (d := 1) (bs := []) (ks := [2, 3, 4, 11, 12, 13, 14, 15]) (loopsL (l := []) (by kernel_rfl) trivial) (by kernel_rfl) (inS := Prod.mk) (outS := id) (fun _ _ => rfl) (inX := id) (outX := id) (fun _ => rfl) (fun v R kn ko => by kernel_rfl) (hd_wk [] [] [2, 3, 4, 11, 12, 13, 14, 15] 0)
noncomputable def L_9b : Lps := (lpB 9 (.by_ ls_9b_0) L0)
def inn_9b : T fr_9b → TH hr_9b → Bool := (fun z w => z)
def out_9b : Bool → T fr_9b × TH hr_9b := fun r => (r, ())
noncomputable def F_9b (a0 : Int) (a1 : Int) (a2 : Int) (a3 : Int) (a4 : Int) : Option (Bool) :=
 let x0 : Int := (IntKind.wrap .i64 (Int.tmod a0 (6:Int)))
 let x1 : Int := (IntKind.wrap .i64 (Int.tmod a1 (6:Int)))
 let x2 : Int := (IntKind.wrap .i64 (x0 * x1))
 (F_9c).bind fun r3 =>
 bif (!r3) then
 (some false)
 else
 ((F_91c x0 x1 (a2 / (2:Int)) a3 a4)).bind fun r4 =>
 let x5 : List Int := r4.2.2.2.1
 let x6 : Nat := (List.length x5)
 let x7 : Int := r4.2.2.1
 ((F_91c x0 x1 (0:Int) a3 a4)).bind fun r8 =>
 let x9 : List Int := r8.2.2.2.1
 let x10 : Nat := (List.length x9)
 let x11 : Int := r8.2.2.1
 bif (((x6 : Nat) : Int) != x2) then
 (some false)
 else
 bif (((x10 : Nat) : Int) != x2) then
 (some false)
 else
 ((lim st_9b_0 ((a2, (a3, (a4, (x0, (x1, ((0:Int), ())))))), ((r4.1, (r4.2.1, (x7, ((List.take x6 x5), ())))), ((r8.1, (r8.2.1, (x11, ((List.take x10 x9), ())))), ()))))).bind fun r12 =>
 els (fun l13 =>
 (some true)) (fun r14 =>
 (some r14.1.1)) r12
noncomputable def G_9b : T fa_9b → TH ha_9b → Option (Bool) := fun x y => F_9b x.1 x.2.1 x.2.2.1 x.2.2.2.1 x.2.2.2.2.1
noncomputable def c_9b : Orc := ent i_9b [] 0 (sp fa_9b ha_9b fr_9b hr_9b G_9b out_9b)
theorem ok_9b : OrcOk PR c_9b := fnT okO_9b mixed p_9b (by kernel_rfl) (by kernel_rfl) (L := L_9b) (kp := false) (by kernel_rfl) (inn := inn_9b) (out := out_9b) (fun _ _ => rfl) (loopsL (l := [((lpN f_9b 0), ls_9b_0)]) (by kernel_rfl) ⟨lp_9b_0, trivial⟩) (fun x y => by kernel_rfl)
end Go.Proofs.YtfpjkmgfkaoapaaGreat.VI

namespace Go.Proofs.YtfpjkmgfkaoapaaGreat.VI
set_option linter.unusedVariables false
set_option linter.unusedSimpArgs false
set_option maxRecDepth 100000
set_option maxHeartbeats 8000000
set_option exponentiation.threshold 2000
theorem pnx_w {v : S_970_0} (h : v.1.1 < 10) (j : Nat) : w32 (List.getD (pnx v).2.2.1 j 0) := by
  unfold pnx st_970_0
  simp only [bif_dec]
  rw [if_pos h]
  simp only [Option.getD_some]
  rcases j with _ | _ | _ | _ | j
  · exact xor_w _ _
  · exact wrap_w _
  · exact xor_w _ _
  · exact wrap_w _
  · exact w0
theorem blk_w {k c v : List Int} (h : F_970 k c = some v) (j : Nat) : w32 (v.getD j 0) := by
  unfold F_970 at h
  generalize hv : (((0:Int), ()), ([(List.getD k (0:Nat) (0:Int)), (List.getD k (1:Nat) (0:Int))], ([(List.getD c (0:Nat) (0:Int)), (List.getD c (1:Nat) (0:Int)), (List.getD c (2:Nat) (0:Int)), (List.getD c (3:Nat) (0:Int))], ([(0:Int), (0:Int), (0:Int), (0:Int)], ())))) = v0 at h
  have h0 : v0.1.1 = (0 : Int) := by rw [← hv]
  have hc9 := psq_cnt h0 9 (by omega)
  have hw := pnx_w (v := psq v0 9) (by rw [hc9]; decide)
  have hc := psq_cnt h0 10 (Nat.le_refl _)
  have hp : psq v0 10 = pnx (psq v0 9) := rfl
  rw [← hp] at hw
  have := lim_seq (st := st_970_0) (psq v0) (b := ((), ([(List.getD (psq v0 10).2.2.1 (0:Nat) (0:Int)), (List.getD (psq v0 10).2.2.1 (1:Nat) (0:Int)), (List.getD (psq v0 10).2.2.1 (2:Nat) (0:Int)), (List.getD (psq v0 10).2.2.1 (3:Nat) (0:Int))], ([(List.getD (psq v0 10).2.2.2.1 (0:Nat) (0:Int)), (List.getD (psq v0 10).2.2.2.1 (1:Nat) (0:Int)), (List.getD (psq v0 10).2.2.2.1 (2:Nat) (0:Int)), (List.getD (psq v0 10).2.2.2.1 (3:Nat) (0:Int))], ())))) 10
    (fun i hi R kn ko => by
      have q : (i : Int) < 10 := by omega
      exact pnx_eq (by rw [psq_cnt h0 i (by omega)]; exact q) R kn ko)
    (fun R kn ko => by
      generalize psq v0 10 = v at *
      unfold st_970_0
      simp only [bif_dec]
      have q : ¬ ((10 : Nat) : Int) < 10 := by omega
      rw [if_neg (by rw [hc]; exact q)])
  have e : lim st_970_0 v0 = _ := this
  rw [e] at h
  simp only [Option.bind_some] at h
  have h := Option.some.inj h
  rw [← h]
  rcases j with _ | _ | _ | _ | j
  · exact hw 0
  · exact hw 1
  · exact hw 2
  · exact hw 3
  · exact w0
theorem word_w (s t : Int) {n : Int} (h : 0 ≤ n) : w32 (wordF s t n) := by
  have hw := word_eq s t h
  unfold F_945 at hw
  dsimp only at hw
  obtain ⟨v, hv⟩ := blk_some [(IntKind.wrap .u32 s), (IntKind.wrap .u32 (s / (4294967296:Int)))] [(IntKind.wrap .u32 (IntKind.wrap .u64 (Int.tdiv n (4:Int)))), (IntKind.wrap .u32 ((IntKind.wrap .u64 (Int.tdiv n (4:Int))) / (4294967296:Int))), t, (0:Int)]
  rw [hv] at hw
  simp only [Option.bind_some, bif_dec, tmod_nn h] at hw
  rw [if_pos (by omega)] at hw
  have hc : n % 4 = 0 ∨ n % 4 = 1 ∨ n % 4 = 2 ∨ n % 4 = 3 := by omega
  have bw := blk_w hv
  rcases hc with e | e | e | e <;> rw [e] at hw
  · have := Option.some.inj (show some (List.getD v 0 0) = _ from hw); rw [← this]; exact bw 0
  · have := Option.some.inj (show some (List.getD v 1 0) = _ from hw); rw [← this]; exact bw 1
  · have := Option.some.inj (show some (List.getD v 2 0) = _ from hw); rw [← this]; exact bw 2
  · have := Option.some.inj (show some (List.getD v 3 0) = _ from hw); rw [← this]; exact bw 3
theorem int_mid {D : Int} (h0 : 2147483648 ≤ D) (h1 : D ≤ 4294967296) : 1325400064 ≤ intf D ∧ intf D ≤ 1333788672 := by
  have v1 : vz 1325400064 = 2 ^ 180 := by decide +kernel
  have v2 : vz 1333788672 = 2 ^ 181 := by decide +kernel
  have f1 := (code_fnt (c := 1325400064) (by decide) (by decide)).1
  have f2 := (code_fnt (c := 1333788672) (by decide) (by decide)).1
  have p1 := Int.mul_le_mul_of_nonneg_right h0 (show (0 : Int) ≤ 2 ^ 298 by have := p2_pos 298; omega)
  have p2 := Int.mul_le_mul_of_nonneg_right h1 (show (0 : Int) ≤ 2 ^ 298 by have := p2_pos 298; omega)
  have c1 : (2147483648 : Int) * 2 ^ 298 = 2 ^ 180 * 2 ^ 149 := by decide +kernel
  have c2 : (4294967296 : Int) * 2 ^ 298 = 2 ^ 181 * 2 ^ 149 := by decide +kernel
  have := pk_in false (N := D) (e := 0) (by omega) (by decide) f1 f2 (by rw [v1, ← c1]; exact p1) (by rw [v2, ← c2]; exact p2)
  have e : intf D = (pk 2 0 false 0 D false).1 := by
    unfold intf fintS
    rw [if_neg (by omega), show decide (D < 0) = false by simp; omega]
  rw [← e] at this
  obtain ⟨a, b, c⟩ := this
  rw [v1] at b
  rw [v2] at c
  have pos : intf D < 2147483648 := by
    apply Int.lt_of_not_ge; intro k
    have := vz_neg a.1 k
    have := mv_nn (intf D - 2147483648)
    have := p2_pos 180; omega
  have fin : intf D < 2139095040 := by have := a.2; omega
  have vv := vz_pos a.1 pos
  exact ⟨mv_code_le (by decide) fin a.1.1 (by decide) (by rw [show mv 1325400064 = 2 ^ 180 by decide +kernel]; omega), mv_code_le a.1.1 (by decide) (by decide) fin (by rw [show mv 1333788672 = 2 ^ 181 by decide +kernel]; omega)⟩
theorem mkM_in {d : Int} (h0 : 0 ≤ d) (h1 : d ≤ 2147483648) : 1065353216 ≤ mkM d ∧ mkM d ≤ 1073741824 := by
  obtain ⟨b1, b2⟩ := int_mid (D := 4294967296 - d) (by omega) (by omega)
  unfold mkM
  generalize intf (4294967296 - d) = b at *
  obtain ⟨fa, va⟩ := code_fnt (c := 1333788672) (by decide) (by decide)
  obtain ⟨fb, vb⟩ := code_fnt (c := b) (by omega) (by omega)
  have zb : zr 2 b = false := by unfold zr; apply decide_eq_false; rw [show TT 2 = 2147483648 from rfl]; omega
  have sb : sg 2 b = false := by rw [sgd fb.1]; simp; omega
  obtain ⟨d1, d2, d3, d4, d5, d6⟩ := code_parts (c := b) (by omega) (by omega)
  obtain ⟨M, m0, m1, hM, hu, hl⟩ := div_mag fa fb (by decide) zb (by
    rw [show xp 2 1333788672 = 9 by decide +kernel, show lg (sig 2 1333788672) = 23 by decide +kernel]; omega)
  rw [show sg 2 1333788672 = false by decide, sb] at hM
  have e : divf 1333788672 b = M := by rw [hM]; show 0 + M = M; omega
  have l1 := mv_le (show (0 : Int) ≤ 1325400064 by decide) b1 (by omega)
  have l2 := mv_le (show 0 ≤ b by omega) b2 (by decide)
  have c1 : mv 1333788672 = 2 ^ 181 := by decide +kernel
  have c2 : mv 1325400064 = 2 ^ 180 := by decide +kernel
  have c3 : mv 1065353216 = 2 ^ 149 := by decide +kernel
  have c4 : mv 1073741824 = 2 ^ 150 := by decide +kernel
  rw [e]
  rw [c1] at l2
  rw [c2] at l1
  constructor
  · apply hl _ (by decide) (by decide)
    rw [c1, c3, Int.mul_comm]
    exact Int.mul_le_mul_of_nonneg_right l2 (Int.le_of_lt (p2_pos 149))
  · apply hu _ (by decide) (by decide)
    rw [c4]
    have := Int.mul_le_mul_of_nonneg_left l1 (show (0 : Int) ≤ 2 ^ 150 by have := p2_pos 150; omega)
    have c5 : (2 : Int) ^ 181 * 2 ^ 149 = 2 ^ 150 * 2 ^ 180 := by decide +kernel
    rw [c1, c5]; exact this
theorem actDrops {r c d s t : Int} (hr : 0 ≤ r) (hc : 0 ≤ c) (hd : w32 d) : F_9b r c d s t = some true := by
  have d0 := hd.1
  have d1 := hd.2
  have eR : IntKind.wrap .i64 (Int.tmod r 6) = r % 6 := by rw [tmod_nn hr, wi64 (by omega)]
  have eC : IntKind.wrap .i64 (Int.tmod c 6) = c % 6 := by rw [tmod_nn hc, wi64 (by omega)]
  have hb : ∃ R C : Nat, r % 6 = R ∧ c % 6 = C ∧ R ≤ 5 ∧ C ≤ 5 := ⟨(r % 6).toNat, (c % 6).toNat, by omega, by omega, by omega, by omega⟩
  obtain ⟨R, C, hR, hC, bR, bC⟩ := hb
  have hRC : R * C ≤ 25 := Nat.mul_le_mul bR bC
  have eRC : (R : Int) * (C : Int) = ((R * C : Nat) : Int) := by simp
  have nX : nwX (R : Int) (C : Int) = R ∧ nwY (R : Int) (C : Int) = C := by
    have e1 : min (max (R : Int) 0) 4096 = R := by omega
    have e2 : min (max (C : Int) 0) 4096 = C := by omega
    unfold nwX nwY
    rw [e1, e2, eRC, if_neg (by omega), if_neg (by omega)]
    exact ⟨by omega, by omega⟩
  unfold F_9b
  rw [known15]
  simp only [Option.bind_some, Bool.not_true, cond_false, eR, eC, hR, hC]
  rw [eRC, wi64 (n := ((R * C : Nat) : Int)) (by omega), mask_eqA _ _ _ _ (d := d / 2) ⟨by omega, by omega⟩, mask_eqA _ _ _ _ w0]
  simp only [Option.bind_some, bif_ne, List.take_length]
  have e1 : mkT (R : Int) (C : Int) (d / 2) s t = ((R : Int), (C : Int), 2, (List.range (R * C)).map (mkH (d / 2) s t), ()) := by unfold mkT; rw [nX.1, nX.2]
  have e2 : mkT (R : Int) (C : Int) 0 s t = ((R : Int), (C : Int), 2, (List.range (R * C)).map (mkH 0 s t), ()) := by unfold mkT; rw [nX.1, nX.2]
  rw [e1, e2]
  simp only [List.length_map, List.length_range, if_true]
  have M0 : mkM 0 = 1065353216 := by decide +kernel
  have Md := mkM_in (d := d / 2) (by omega) (by omega)
  have g1 : ∀ i, i < R * C → ((List.range (R * C)).map (mkH (d / 2) s t)).getD i 0 = mkH (d / 2) s t i := fun i hi => gl_mapA hi
  have g2 : ∀ i, i < R * C → ((List.range (R * C)).map (mkH 0 s t)).getD i 0 = mkH 0 s t i := fun i hi => gl_mapA hi
  have n1 : ((List.range (R * C)).map (mkH (d / 2) s t)).length = R * C := by simp
  have n2 : ((List.range (R * C)).map (mkH 0 s t)).length = R * C := by simp
  generalize (List.range (R * C)).map (mkH (d / 2) s t) = X at *
  generalize (List.range (R * C)).map (mkH 0 s t) = Y at *
  have := lim_seq (st := st_9b_0) (fun i => ((d, (s, (t, ((R : Int), ((C : Int), ((i : Int), ())))))), (((R : Int), ((C : Int), ((2 : Int), (X, ())))), (((R : Int), ((C : Int), ((2 : Int), (Y, ())))), ()))))
    (b := Sum.inl ((), ())) (R * C)
    (fun i hi Q kn ko => by
      have ew := word_eq s t (n := (i : Int)) (by omega)
      have ww := word_w s t (n := (i : Int)) (by omega)
      have hX := g1 i hi
      have hY := g2 i hi
      have hY1 : mkH 0 s t i = 1065353216 := by unfold mkH; rw [if_neg (by have := ww.1; omega), M0]
      unfold st_9b_0
      dsimp only
      have hi2 : 0 ≤ (i : Int) ∧ (i : Int) < ((R * C : Nat) : Int) := by omega
      simp only [List.take_length]
      simp only [bif_dec, Int.toNat_natCast, n1, n2, hX, hY, hY1]
      rw [eRC, wi64 (n := ((R * C : Nat) : Int)) (by omega), if_pos (show (i : Int) < ((R * C : Nat) : Int) by omega), if_pos (show 0 ≤ (i : Int) ∧ (i : Int) < ((R * C : Nat) : Int) by omega), wu64 (n := (i : Int)) (by omega), word_same, ew]
      simp only [Option.bind_some]
      rw [wi64 (n := (i : Int) + 1) (by omega), show ((i + 1 : Nat) : Int) = (i : Int) + 1 by omega]
      by_cases hw : wordF s t (i : Int) < d / 2
      · have h0 : mkH (d / 2) s t i = 0 := by unfold mkH; rw [if_pos hw]
        rw [h0, decide_eq_true hw]
        have ha : F_91f 1065353216 0 = some true := by rw [rabove_eq (wlit rfl) w0]; decide
        simp only [beq_self_eq_true, Bool.not_true, cond_false, bne_self_eq_false, ha, Option.bind_some, cond_true, if_pos hi2]
      · have h0 : mkH (d / 2) s t i = mkM (d / 2) := by unfold mkH; rw [if_neg hw]
        rw [h0, decide_eq_false hw]
        have hne : (mkM (d / 2) == (0 : Int)) = false := by simp; omega
        have wM : w32 (mkM (d / 2)) := ⟨by omega, by omega⟩
        have ha : F_91f 1065353216 (mkM (d / 2)) = some false := by
          rw [rabove_eq (wlit rfl) wM]
          congr 1
          rw [Bool.eq_false_iff]; intro k
          rw [lt_iff] at k
          have k := k.2.2.2
          rw [show ky 2 1065353216 = 1065353216 by decide] at k
          unfold ky at k
          rw [show sg 2 (mkM (d / 2)) = false by rw [sgd wM]; simp; omega, show TT 2 = 2147483648 from rfl] at k
          simp at k; omega
        simp only [hne, ha, beq_self_eq_true, Bool.not_true, cond_false, bne_self_eq_false, Option.bind_some, if_pos hi2])
    (fun Q kn ko => by
      unfold st_9b_0
      dsimp only
      simp only [List.take_length, bif_dec]
      rw [eRC, wi64 (n := ((R * C : Nat) : Int)) (by omega), if_neg (show ¬ ((R * C : Nat) : Int) < ((R * C : Nat) : Int) by omega)])
  have e : lim st_9b_0 ((d, (s, (t, ((R : Int), ((C : Int), ((0 : Int), ())))))), (((R : Int), ((C : Int), ((2 : Int), (X, ())))), (((R : Int), ((C : Int), ((2 : Int), (Y, ())))), ()))) = _ := this
  rw [e]
  rfl
theorem callActDrops : ∀ l, args [.i .u8, .i .u8, .i .u32, .i .u64, .i .u32] l → oks l → CallOk PR i_9b l [] fun r _ => r = .b true :=
  rowT (fa := fa_9b) (F := G_9b) rfl rfl ok_9b (enters p_9b (by kernel_rfl) (by kernel_rfl)) rfl fun x hx =>
    actDrops hx.1.1 hx.2.1.1 ⟨hx.2.2.1.1, Int.lt_add_one_of_le hx.2.2.1.2⟩
end Go.Proofs.YtfpjkmgfkaoapaaGreat.VI

namespace Go.Proofs.YtfpjkmgfkaoapaaGreat.VI
set_option linter.unusedVariables false
set_option linter.unusedSimpArgs false
open Go.ChangeShapes Go.WideShapes Go.RowKit Go.WideElems YtfpjkmgfkaoapaaGreat
set_option maxRecDepth 100000
theorem laid : laidOutB Tryz.prog = true := by kernel_rfl
theorem own : ownKnob Tryz.prog.godebug = none := by kernel_rfl
theorem lifted (os : Os) (started : os.Started) (H : Type) (enc : TypeId × Value → H) :
    ReturnsInHanded {} Tryz.checked os 6 .any (Rows.actDropsSpec.pre6 enc Tryz.prog Tryz.f6 Rows.actDropsRow.domain false) (Rows.actDropsSpec.post enc Tryz.prog Tryz.f6 false true false false) :=
  lift_args (C := Tryz.checked) own started (by kernel_rfl) Tryz.func6
    (ChangeSpec.witness6 (enc := enc) (C := Tryz.checked) false ⟨#[], #[.int .u8 0, .int .u8 0, .int .u32 0, .int .u64 0, .int .u32 0], []⟩ 8 (by kernel_rfl) (by kernel_rfl) (by kernel_rfl) (by kernel_rfl))
    laid Tryz.underlying4 rfl (by kernel_rfl) rfl (fun ds hd => match ds, hd with
    | [_, _, _, _, _], _ => rfl) (d := 6) (by kernel_rfl) (Fs := [.i .u8, .i .u8, .i .u32, .i .u64, .i .u32]) (by kernel_rfl) callActDrops
theorem over : Rows.actDropsRow.holds Tryz.pinned (OpenSpec.ofChange Rows.actDropsSpec) :=
  OpenClaim.holds_of_wide 6 Tryz.f6 rfl rfl rfl rfl rfl rfl rfl ⟨rfl, rfl, rfl, rfl, rfl⟩ rfl rfl rfl rfl rfl (by kernel_rfl) Tryz.func6 (by kernel_rfl)
    (of_decide_eq_true (by kernel_rfl)) (by unfold Func.isWrapper; first | (rw [if_pos (by decide +kernel)]; kernel_rfl) | (rw [if_neg (by decide +kernel)]; exact ⟨rfl, rfl⟩))
    (fun os started H enc _ => lifted os started H enc)
end Go.Proofs.YtfpjkmgfkaoapaaGreat.VI
