import Derived.Test.YtfpjkmgfkaoapaaGreatTee148449
import Derived.Test.YtfpjkmgfkaoapaaGreatRows
import Derived.WalkKit
import Derived.ProofKit
namespace Go.Proofs.YtfpjkmgfkaoapaaGreat.VI
set_option linter.unusedVariables false
set_option linter.unusedSimpArgs false
set_option maxRecDepth 100000
set_option maxHeartbeats 4000000
def mildP (f v : Int) : Prop := nan f v = false ∧ inff f v = false ∧ (v % TT f = 0 → v = 0)
theorem mild_p {k : Int} (f : Int) (h : w32 k) : ∃ v, F_914 f k = some v ∧ wf f v ∧ mildP f v := by
  have fb := fmt_bd f
  unfold F_914
  rw [bif_eq]
  by_cases h0 : Int.tmod k 7 = 0
  · rw [if_pos h0]; refine ⟨0, rfl, ⟨by omega, by omega⟩, ?_⟩
    have ib := IN_bd f
    refine ⟨?_, ?_, fun _ => rfl⟩
    · unfold nan; rw [Int.zero_emod]; exact decide_eq_false (by omega)
    · unfold inff; rw [Int.zero_emod]; exact decide_eq_false (by omega)
  rw [if_neg h0, zeror_w, ← widr_nf f]
  have key : ∀ (x : Int), 0 < x → x < IN f → (x % (TT f) = x ∧ (TT f + x) % TT f = x) := by
    intro x h1 h2
    have ib := IN_bd f
    refine ⟨Int.emod_eq_of_lt (by omega) (by omega), ?_⟩
    rw [Int.add_comm, Int.add_emod_right]; exact Int.emod_eq_of_lt (by omega) (by omega)
  have fin : ∀ (x : Int), 0 < x → x < IN f → ∃ v, (bif (bits .and .u32 k 1 == 1) then some (bits .or .u32 x (sgn f true)) else some x) = some v ∧ wf f v ∧ mildP f v := by
    intro x h1 h2
    have ib := IN_bd f
    have kx := key x h1 h2
    cases bits .and .u32 k 1 == 1
    · refine ⟨x, rfl, ⟨by omega, by omega⟩, ?_, ?_, ?_⟩
      · unfold nan; rw [kx.1]; simp; omega
      · unfold inff; rw [kx.1]; simp; omega
      · rw [kx.1]; intro q; exact q
    · have e : bits .or .u32 x (sgn f true) = TT f + x := by
        rw [or_comm32, sgn_or f true ⟨by omega, by omega⟩]; unfold sgn; simp
      refine ⟨TT f + x, by rw [e]; rfl, ⟨by omega, by omega⟩, ?_, ?_, ?_⟩
      · unfold nan; rw [kx.2]; simp; omega
      · unfold inff; rw [kx.2]; simp; omega
      · rw [kx.2]; intro q; omega
  have hd : Int.tmod (k / 8) 4096 = k / 8 % 4096 ∧ Int.tmod (k / 8) 512 = k / 8 % 512 ∧ Int.tmod (k / 8) 33554432 = k / 8 % 33554432 := by
    have : 0 ≤ k / 8 := by have := h.1; omega
    exact ⟨tmod_nn this, tmod_nn this, tmod_nn this⟩
  have hI : IN f = (RR f - 1) * BB f := rfl
  rw [← nf_RR f, ← nf_BB f] at hI
  rcases nf_cases f with e | e | e <;> rw [e] at hI ⊢
  · have hI2 : IN f = 31744 := hI
    have := fin (IntKind.wrap .u32 (13312 + Int.tmod (k / 8) 4096)) (by rw [hd.1, wu32 (by omega)]; omega) (by rw [hd.1, wu32 (by omega)]; omega)
    exact this
  · have hI2 : IN f = 32640 := hI
    have := fin (IntKind.wrap .u32 (16000 + Int.tmod (k / 8) 512)) (by rw [hd.2.1, wu32 (by omega)]; omega) (by rw [hd.2.1, wu32 (by omega)]; omega)
    exact this
  · have hI2 : IN f = 2139095040 := hI
    have := fin (IntKind.wrap .u32 (1048576000 + Int.tmod (k / 8) 33554432)) (by rw [hd.2.2, wu32 (by omega)]; omega) (by rw [hd.2.2, wu32 (by omega)]; omega)
    exact this
theorem num_wf (f : Int) {k : Int} (h : w32 k) : ∃ v, F_913 f k = some v ∧ wf f v := by
  unfold F_913
  rw [maskr_eq, zeror_w, ← widr_nf f]
  have h15 : (0:Int) ≤ Int.tmod k 15 ∧ Int.tmod k 15 < 15 := by rw [tmod_nn h.1]; omega
  have o : ∀ y, wf f (bits .or .u32 (bits .and .u32 y (2 * TT f - 1)) (sgn f true)) := fun y => by
    have := or_top_bd f y
    unfold sgn; exact this
  rcases nf_cases f with e | e | e <;> rw [e]
  all_goals
    show ∃ v, (bif decide ((0:Int) ≤ Int.tmod k 15 ∧ Int.tmod k 15 < 15) then (bif decide ((0:Nat) + (Int.toNat (Int.tmod k 15)) * 1 < 15) then (bif (k / 2147483648 == 1) then some (bits .or .u32 (bits .and .u32 _ (2 * TT f - 1)) (sgn f true)) else some (bits .and .u32 _ (2 * TT f - 1))) else none) else none) = some v ∧ wf f v
    rw [bif_dec, if_pos h15, bif_dec, if_pos (by omega)]
    cases k / 2147483648 == 1
    · exact ⟨_, rfl, and_mask_bd f _⟩
    · exact ⟨_, rfl, o _⟩
theorem wrap_w (n : Int) : w32 (IntKind.wrap .u32 n) := by rw [wu32_eq]; exact ⟨by omega, by omega⟩
theorem seatT (R C : Nat) (f : Int) (l : List Int) (m : Bool) (hR : R ≤ 4096) (hC : C ≤ 4096) (hl : l.length < 4611686018427387904) :
    ∃ V, F_9d (R : Int) (C : Int) f l m = some ((R : Int), (C : Int), f, V, ()) ∧ V.length = R * C ∧ (∀ v ∈ V, wf f v) ∧ (m = true → ∀ v ∈ V, mildP f v) := by
  have hb := rc_bd hR hC
  have hRC : ((R : Int) * (C : Int)) = ((R * C : Nat) : Int) := by simp
  obtain ⟨r, hr, V, hr2, lV, wV, mV⟩ := lim_post (st := st_9d_0)
    (fun v => ∃ (i : Nat) (V : List Int), v = (((R : Int), ((C : Int), (f, (l, (m, ((i : Int), ())))))), (((0:Int), ((0:Int), ((0:Int), ()))), (((R : Int), ((C : Int), (f, ((i : Nat), ())))), (V, ())))) ∧ i ≤ R * C ∧ V.length = i ∧ (∀ v ∈ V, wf f v) ∧ (m = true → ∀ v ∈ V, mildP f v))
    (fun v => R * C + 1 - v.2.2.1.2.2.2.1)
    (fun r => ∃ (V : List Int), r = ((), (((0:Int), ((0:Int), ((0:Int), ()))), (((R : Int), ((C : Int), (f, ((R * C : Nat), ())))), (V, ())))) ∧ V.length = R * C ∧ (∀ v ∈ V, wf f v) ∧ (m = true → ∀ v ∈ V, mildP f v))
    (fun v hv => by
      obtain ⟨i, V, rfl, h1, h2, h3, h4⟩ := hv
      by_cases hi : i < R * C
      · left
        have h30 : i + 1 ≤ 1073741824 := by omega
        have stp : ∃ v, (∀ R' kn ko, st_9d_0 R' (((R : Int), ((C : Int), (f, (l, (m, ((i : Int), ())))))), (((0:Int), ((0:Int), ((0:Int), ()))), (((R : Int), ((C : Int), (f, ((i : Nat), ())))), (V, ())))) kn ko = kn (((R : Int), ((C : Int), (f, (l, (m, (((i + 1 : Nat) : Int), ())))))), (((0:Int), ((0:Int), ((0:Int), ()))), (((R : Int), ((C : Int), (f, ((i + 1 : Nat), ())))), (V ++ [v], ()))))) ∧ wf f v ∧ (m = true → mildP f v) := by
          by_cases hl0 : ((l.length : Nat) : Int) > 0
          · have ht : 0 ≤ Int.tmod (i : Int) ((l.length : Nat) : Int) ∧ Int.tmod (i : Int) ((l.length : Nat) : Int) < ((l.length : Nat) : Int) := by
              rw [tmod_nn (by omega)]; exact ⟨Int.emod_nonneg _ (by omega), Int.emod_lt_of_pos _ hl0⟩
            have hz : (((l.length : Nat) : Int) == 0) = false := beq_false_of_ne (by omega)
            cases m
            · obtain ⟨v, hv, hw⟩ := num_wf f  (k := (IntKind.wrap .u32 ((List.getD l (Int.toNat (Int.tmod (i : Int) ((l.length : Nat) : Int))) (0:Int)) + (IntKind.wrap .u32 ((IntKind.wrap .u32 (IntKind.wrap .i64 (Int.tdiv (i : Int) ((l.length : Nat) : Int)))) * (40503:Int)))))) (wrap_w _)
              refine ⟨v, fun R' kn ko => ?_, hw, fun h => by cases h⟩
              unfold st_9d_0
              dsimp only
              simp only [List.take_length, bif_dec, hz, hRC]
              rw [wi64 (n := ((R * C : Nat) : Int)) (by omega), if_pos (show (i : Int) < ((R * C : Nat) : Int) by omega), if_pos hl0, cond_false, if_pos ht, cond_false, cond_false, hv, wi64 (n := (i : Int) + 1) (by omega), show ((i + 1 : Nat) : Int) = (i : Int) + 1 by omega]
              rw [List.take_of_length_le (show V.length ≤ i by omega)]
              simp only [Option.bind_some]
              rw [if_pos h30]
            · obtain ⟨v, hv, hw, hm⟩ := mild_p f  (k := (IntKind.wrap .u32 ((List.getD l (Int.toNat (Int.tmod (i : Int) ((l.length : Nat) : Int))) (0:Int)) + (IntKind.wrap .u32 ((IntKind.wrap .u32 (IntKind.wrap .i64 (Int.tdiv (i : Int) ((l.length : Nat) : Int)))) * (40503:Int)))))) (wrap_w _)
              refine ⟨v, fun R' kn ko => ?_, hw, fun _ => hm⟩
              unfold st_9d_0
              dsimp only
              simp only [List.take_length, bif_dec, hz, hRC]
              rw [wi64 (n := ((R * C : Nat) : Int)) (by omega), if_pos (show (i : Int) < ((R * C : Nat) : Int) by omega), if_pos hl0, cond_false, if_pos ht, cond_false, cond_true, hv, wi64 (n := (i : Int) + 1) (by omega), show ((i + 1 : Nat) : Int) = (i : Int) + 1 by omega]
              rw [List.take_of_length_le (show V.length ≤ i by omega)]
              simp only [Option.bind_some]
              rw [if_pos h30]
          · cases m
            · obtain ⟨v, hv, hw⟩ := num_wf f  (k := (IntKind.wrap .u32 ((IntKind.wrap .u32 (i : Int)) * (2654435761:Int)))) (wrap_w _)
              refine ⟨v, fun R' kn ko => ?_, hw, fun h => by cases h⟩
              unfold st_9d_0
              dsimp only
              simp only [List.take_length, bif_dec, hRC]
              rw [wi64 (n := ((R * C : Nat) : Int)) (by omega), if_pos (show (i : Int) < ((R * C : Nat) : Int) by omega), if_neg hl0, cond_false, hv, wi64 (n := (i : Int) + 1) (by omega), show ((i + 1 : Nat) : Int) = (i : Int) + 1 by omega]
              rw [List.take_of_length_le (show V.length ≤ i by omega)]
              simp only [Option.bind_some]
              rw [if_pos h30]
            · obtain ⟨v, hv, hw, hm⟩ := mild_p f  (k := (IntKind.wrap .u32 ((IntKind.wrap .u32 (i : Int)) * (2654435761:Int)))) (wrap_w _)
              refine ⟨v, fun R' kn ko => ?_, hw, fun _ => hm⟩
              unfold st_9d_0
              dsimp only
              simp only [List.take_length, bif_dec, hRC]
              rw [wi64 (n := ((R * C : Nat) : Int)) (by omega), if_pos (show (i : Int) < ((R * C : Nat) : Int) by omega), if_neg hl0, cond_true, hv, wi64 (n := (i : Int) + 1) (by omega), show ((i + 1 : Nat) : Int) = (i : Int) + 1 by omega]
              rw [List.take_of_length_le (show V.length ≤ i by omega)]
              simp only [Option.bind_some]
              rw [if_pos h30]
        obtain ⟨v, hs, hw, hm⟩ := stp
        refine ⟨_, hs, ⟨i + 1, V ++ [v], rfl, by omega, by simp [h2], ?_, ?_⟩, by simp only; omega⟩
        · intro c hc; rcases List.mem_append.1 hc with q | q
          · exact h3 c q
          · simp at q; rw [q]; exact hw
        · intro hmt c hc; rcases List.mem_append.1 hc with q | q
          · exact h4 hmt c q
          · simp at q; rw [q]; exact hm hmt
      · right
        have e : i = R * C := by omega
        subst e
        refine ⟨_, fun R' kn ko => ?_, ⟨V, rfl, h2, h3, h4⟩⟩
        unfold st_9d_0
        dsimp only
        simp only [List.take_length, bif_dec, hRC]
        rw [wi64 (n := ((R * C : Nat) : Int)) (by omega), if_neg (show ¬ ((R * C : Nat) : Int) < ((R * C : Nat) : Int) by omega)])
    (((R : Int), ((C : Int), (f, (l, (m, ((0:Int), ())))))), (((0:Int), ((0:Int), ((0:Int), ()))), (((R : Int), ((C : Int), (f, ((0:Nat), ())))), ([], ()))))
    ⟨0, [], rfl, by omega, rfl, fun c hc => absurd hc (by simp), fun _ c hc => absurd hc (by simp)⟩
  refine ⟨V, ?_, lV, wV, mV⟩
  unfold F_9d
  rw [List.take_length, hr, hr2]
  simp only [Option.bind_some, List.drop_zero]
  rw [List.take_of_length_le (by omega)]
theorem wf_wl {f : Int} {V : List Int} (h : ∀ v ∈ V, wf f v) : wl V := fun a ha => wf_w (h a ha)
theorem wf_right {R C : Nat} {f : Int} {V : List Int} (hR : R ≤ 4096) (hC : C ≤ 4096) (hl : V.length = R * C) (hf : knownS f = true) (h : ∀ v ∈ V, wf f v) : rightS ((R : Int), (C : Int), f, V, ()) = true :=
  right_mk hR hC hl hf (List.all_eq_true.2 fun a ha => decide_eq_true (h a ha).2)
end Go.Proofs.YtfpjkmgfkaoapaaGreat.VI

namespace Go.Proofs.YtfpjkmgfkaoapaaGreat.VI
set_option linter.unusedVariables false
set_option linter.unusedSimpArgs false
set_option maxRecDepth 100000
set_option maxHeartbeats 8000000
theorem wider_eq (t : TsT) {i : Nat} (hl : wl t.2.2.2.1) (hi : i < t.2.2.2.1.length) : F_93f t (i : Int) = some (gl (wideL t) i) := by
  obtain ⟨r, c, f, l, ⟨⟩⟩ := t
  simp only at hl hi
  unfold F_93f F_911
  dsimp only
  rw [bif_dec, if_pos (by omega), Int.toNat_natCast, tor_eq f 2 0 (wl_get hl i)]
  simp only [Option.bind_some]
  unfold wideL
  have : gl ((List.range l.length).map fun i => widen f (l.getD i 0)) i = widen f (l.getD i 0) := by
    unfold gl; rw [List.getD_eq_getElem?_getD, List.getElem?_map, List.getElem?_range hi]; rfl
  rw [this]; rfl
def tk (a : TsT) : TsT := (a.1, (a.2.1, (a.2.2.1, ((List.take (List.length a.2.2.2.1) a.2.2.2.1), ()))))
theorem tk_id (a : TsT) : tk a = a := by unfold tk; rw [List.take_length]
theorem light_len {a : TsT} (h : F_912 a = some true) : a.2.2.2.1.length ≤ 60 := by
  unfold F_912 at h
  rw [bif_dec] at h
  by_cases k : ((List.length a.2.2.2.1 : Nat) : Int) ≤ 60
  · omega
  · rw [if_neg k] at h; cases h
theorem light_some (a : TsT) : ∃ b, F_912 a = some b := by
  unfold F_912
  simp only [bif_dec]
  (repeat' split) <;> exact ⟨_, rfl⟩
theorem tmod5 {a : Int} (h : 0 ≤ a) : ∃ n : Nat, IntKind.wrap .i64 (Int.tmod a 5) = n ∧ n ≤ 4 := by
  refine ⟨(a % 5).toNat, ?_, by omega⟩
  rw [tmod_nn h, wi64 (by omega)]; omega
end Go.Proofs.YtfpjkmgfkaoapaaGreat.VI

namespace Go.Proofs.YtfpjkmgfkaoapaaGreat.VI
set_option linter.unusedVariables false
set_option linter.unusedSimpArgs false
set_option maxRecDepth 100000
set_option maxHeartbeats 4000000
theorem narrowr_eq (f : Int) {a : Int} (ha : w32 a) : F_9f f a = some (narrow f a) := by
  unfold F_9f narrow; rw [tor_eq 2 f 0 ha]; rfl
theorem gl_mapA {h : Nat → Int} {n i : Nat} (hi : i < n) : gl ((List.range n).map h) i = h i := by
  unfold gl; rw [List.getD_eq_getElem?_getD]; simp [hi]
theorem wideL_get (t : TsT) {i : Nat} (h : i < t.2.2.2.1.length) : gl (wideL t) i = widen t.2.2.1 (t.2.2.2.1.getD i 0) := by
  unfold wideL; rw [gl_mapA h]
theorem act_k (k : Int) : F_928 k = some (decide (0 ≤ k ∧ k ≤ 3)) := by
  unfold F_928
  simp only [bif_dec]
  by_cases h : 0 ≤ k <;> simp [h]
theorem actr_k (k : Int) : F_93e k = some (decide (0 ≤ k ∧ k ≤ 3)) := act_k k
def fwdL (k : Int) (t : TsT) : List Int := (List.range t.2.2.2.1.length).map (fun i => narrow t.2.2.1 (valS k (widen t.2.2.1 (t.2.2.2.1.getD i 0))))
def fwdT (k : Int) (t : TsT) : TsT × Int × Unit := if rightS t then (if 0 ≤ k ∧ k ≤ 3 then ((t.1, t.2.1, t.2.2.1, fwdL k t, ()), 0, ()) else (noT, 22, ())) else (noT, 21, ())
theorem fwd_all (t : TsT) (k : Int) (hl : wl t.2.2.2.1) (hn : t.2.2.2.1.length ≤ 1073741824) : F_9e k t = some (fwdT k t) := by
  unfold fwdT
  by_cases hr : rightS t = true
  · rw [if_pos hr]
    by_cases hk : 0 ≤ k ∧ k ≤ 3
    · rw [if_pos hk, fwd_eq t k (valS k) (fun x hx => ⟨val_eq k hx, val_w k hx⟩) hl hn hk hr]; rfl
    · rw [if_neg hk]
      obtain ⟨r, c, f, l, ⟨⟩⟩ := t
      simp only at hl hn
      unfold F_9e
      dsimp only
      simp only [List.take_length]
      have e0 : List.getD [k] 0 0 = k := rfl
      rw [right_eq (r, c, f, l, ()) hl (by simp only; omega), hr, e0, act_k]
      simp only [Option.bind_some, Bool.not_true, cond_false]
      rw [decide_eq_false hk]; rfl
  · rw [if_neg hr]
    rw [Bool.not_eq_true] at hr
    obtain ⟨r, c, f, l, ⟨⟩⟩ := t
    simp only at hl hn
    unfold F_9e
    dsimp only
    simp only [List.take_length]
    rw [right_eq (r, c, f, l, ()) hl (by simp only; omega), hr]
    rfl
theorem fwdr_all (t : TsT) (k : Int) (hl : wl t.2.2.2.1) (hn : t.2.2.2.1.length ≤ 1073741824) : F_918 k t = some (fwdT k t) := by
  unfold fwdT
  obtain ⟨r, c, f, l, ⟨⟩⟩ := t
  simp only at hl hn
  by_cases hr : rightS (r, c, f, l, ()) = true
  · rw [if_pos hr]
    by_cases hk : 0 ≤ k ∧ k ≤ 3
    · rw [if_pos hk]
      have := lim_seq (st := st_918_0) (fun i => ((k, ((i : Int), ())), ((r, (c, (f, (l, ())))), (((0:Int), ((0:Int), ((0:Int), ()))), ((r, (c, (f, (l.length, ())))), (lay1 (fun i => narrow f (valS k (widen f (l.getD i 0)))) l.length i, ()))))))
        (b := ((), (((0:Int), ((0:Int), ((0:Int), ()))), ((r, (c, (f, (l.length, ())))), (lay1 (fun i => narrow f (valS k (widen f (l.getD i 0)))) l.length l.length, ()))))) l.length
        (fun i hi R kn ko => by
          have hll := lay1_len (fun i => narrow f (valS k (widen f (l.getD i 0)))) (Nat.le_of_lt hi)
          have hls := lay1_set (fun i => narrow f (valS k (widen f (l.getD i 0)))) hi
          have e1 := wider_eq (r, c, f, l, ()) (i := i) hl hi
          rw [wideL_get (r, c, f, l, ()) hi] at e1
          have hw := widen_w f (l.getD i 0)
          unfold st_918_0
          dsimp only at hls e1 ⊢
          simp only [List.take_length, bif_dec, hll, Int.toNat_natCast]
          rw [if_pos (show (i : Int) < (l.length : Int) by omega)]
          rw [show F_93f (r, (c, (f, (l, ())))) (i : Int) = _ from e1]
          simp only [Option.bind_some]
          rw [valr_eq k hw]
          simp only [Option.bind_some]
          rw [narrowr_eq f (val_w k hw)]
          simp only [Option.bind_some]
          rw [if_pos (show 0 ≤ (i : Int) ∧ (i : Int) < (l.length : Int) by omega), if_pos (show 0 + i * 1 < l.length by omega), show 0 + i * 1 = i by omega, hls, wi64 (by omega), show ((i + 1 : Nat) : Int) = (i : Int) + 1 by omega])
        (fun R kn ko => by
          unfold st_918_0
          dsimp only
          simp only [List.take_length, bif_dec]
          rw [if_neg (show ¬ (l.length : Int) < (l.length : Int) by omega)])
      rw [lay1_zero] at this
      unfold F_918
      dsimp only
      simp only [List.take_length, Int.toNat_natCast]
      rw [rightr_eq (r, c, f, l, ()) hl (by simp only; omega), hr, actr_k, decide_eq_true hk]
      simp only [Option.bind_some, Bool.not_true, cond_false, bif_dec]
      rw [if_pos (by omega)]
      have e : lim st_918_0 ((k, ((0 : Int), ())), ((r, (c, (f, (l, ())))), (((0:Int), ((0:Int), ((0:Int), ()))), ((r, (c, (f, (l.length, ())))), (List.replicate l.length 0, ()))))) = _ := this
      rw [e]
      simp only [Option.bind_some, List.drop_zero, lay1_all]
      rw [List.take_of_length_le (by simp)]
      rfl
    · rw [if_neg hk]
      unfold F_918
      dsimp only
      simp only [List.take_length]
      rw [rightr_eq (r, c, f, l, ()) hl (by simp only; omega), hr, actr_k, decide_eq_false hk]
      rfl
  · rw [if_neg hr]
    rw [Bool.not_eq_true] at hr
    unfold F_918
    dsimp only
    simp only [List.take_length]
    rw [rightr_eq (r, c, f, l, ()) hl (by simp only; omega), hr]
    rfl
end Go.Proofs.YtfpjkmgfkaoapaaGreat.VI

namespace Go.Proofs.YtfpjkmgfkaoapaaGreat.VI
set_option linter.unusedVariables false
set_option linter.unusedSimpArgs false
set_option maxRecDepth 100000
set_option maxHeartbeats 4000000
theorem word_same (s t n : Int) : F_91e s t n = F_945 s t n := by kernel_rfl
noncomputable def pnx (v : S_970_0) : S_970_0 := (st_970_0 S_970_0 v some (fun _ => none)).getD v
theorem pnx_eq {v : S_970_0} (h : v.1.1 < 10) (R : Type) (kn ko) : st_970_0 R v kn ko = kn (pnx v) := by
  unfold pnx st_970_0
  simp only [bif_dec]
  rw [if_pos h, if_pos h]; rfl
theorem pnx_cnt {v : S_970_0} (h : v.1.1 < 10) : (pnx v).1.1 = IntKind.wrap .i64 (v.1.1 + 1) := by
  unfold pnx st_970_0
  simp only [bif_dec]
  rw [if_pos h]; rfl
noncomputable def psq (v : S_970_0) : Nat → S_970_0
  | 0 => v
  | n + 1 => pnx (psq v n)
theorem psq_cnt {v : S_970_0} (h : v.1.1 = 0) : ∀ n : Nat, n ≤ 10 → (psq v n).1.1 = n
  | 0, _ => h
  | n + 1, k => by
    have := psq_cnt h n (by omega)
    show (pnx (psq v n)).1.1 = _
    have q : (n : Int) < 10 := by omega
    have q2 : IntKind.wrap .i64 ((n : Int) + 1) = ((n + 1 : Nat) : Int) := by rw [wi64 (by omega)]; omega
    rw [pnx_cnt (by rw [this]; exact q), this]; exact q2
theorem blk_some (k c : List Int) : ∃ v, F_970 k c = some v := by
  unfold F_970
  generalize hv : (((0:Int), ()), ([(List.getD k (0:Nat) (0:Int)), (List.getD k (1:Nat) (0:Int))], ([(List.getD c (0:Nat) (0:Int)), (List.getD c (1:Nat) (0:Int)), (List.getD c (2:Nat) (0:Int)), (List.getD c (3:Nat) (0:Int))], ([(0:Int), (0:Int), (0:Int), (0:Int)], ())))) = v0
  have h0 : v0.1.1 = (0 : Int) := by rw [← hv]
  have hl : ∃ b, ∀ (R : Type) (kn ko), st_970_0 R (psq v0 10) kn ko = ko b := by
    have := psq_cnt h0 10 (Nat.le_refl _)
    generalize psq v0 10 = v at *
    refine ⟨((), ([(List.getD v.2.2.1 (0:Nat) (0:Int)), (List.getD v.2.2.1 (1:Nat) (0:Int)), (List.getD v.2.2.1 (2:Nat) (0:Int)), (List.getD v.2.2.1 (3:Nat) (0:Int))], ([(List.getD v.2.2.2.1 (0:Nat) (0:Int)), (List.getD v.2.2.2.1 (1:Nat) (0:Int)), (List.getD v.2.2.2.1 (2:Nat) (0:Int)), (List.getD v.2.2.2.1 (3:Nat) (0:Int))], ()))), fun R kn ko => ?_⟩
    unfold st_970_0
    simp only [bif_dec]
    have q : ¬ ((10 : Nat) : Int) < 10 := by omega
    rw [if_neg (by rw [this]; exact q)]
  obtain ⟨b, hb⟩ := hl
  have := lim_seq (st := st_970_0) (psq v0) (b := b) 10
    (fun i hi R kn ko => by
      have q : (i : Int) < 10 := by omega
      exact pnx_eq (by rw [psq_cnt h0 i (by omega)]; exact q) R kn ko) hb
  have e : lim st_970_0 v0 = some b := this
  rw [e]
  exact ⟨_, rfl⟩
noncomputable def wordF (s t n : Int) : Int := (F_945 s t n).getD 0
theorem word_eq (s t : Int) {n : Int} (h : 0 ≤ n) : F_945 s t n = some (wordF s t n) := by
  have : ∃ w, F_945 s t n = some w := by
    unfold F_945
    dsimp only
    obtain ⟨v, hv⟩ := blk_some [(IntKind.wrap .u32 s), (IntKind.wrap .u32 (s / (4294967296:Int)))] [(IntKind.wrap .u32 (IntKind.wrap .u64 (Int.tdiv n (4:Int)))), (IntKind.wrap .u32 ((IntKind.wrap .u64 (Int.tdiv n (4:Int))) / (4294967296:Int))), t, (0:Int)]
    rw [hv]
    simp only [Option.bind_some, bif_dec, tmod_nn h]
    rw [if_pos (by omega)]
    have hc : n % 4 = 0 ∨ n % 4 = 1 ∨ n % 4 = 2 ∨ n % 4 = 3 := by omega
    rcases hc with e | e | e | e <;> rw [e] <;> exact ⟨_, rfl⟩
  obtain ⟨w, hw⟩ := this
  unfold wordF; rw [hw]; rfl
theorem lay1_same (h : Nat → Int) {n i : Nat} (hi : i < n) (h0 : h i = 0) : lay1 h n (i + 1) = lay1 h n i := by
  unfold lay1
  rw [List.range_succ, List.map_append, show n - i = (n - (i + 1)) + 1 by omega, List.replicate_succ]
  simp [h0]
def nwX (a b : Int) : Nat := if min (max a 0) 4096 * min (max b 0) 4096 > 262144 then 0 else (min (max a 0) 4096).toNat
def nwY (a b : Int) : Nat := if min (max a 0) 4096 * min (max b 0) 4096 > 262144 then 0 else (min (max b 0) 4096).toNat
theorem nw_bd (a b : Int) : nwX a b ≤ 4096 ∧ nwY a b ≤ 4096 ∧ nwX a b * nwY a b ≤ 262144 := by
  unfold nwX nwY
  by_cases h : min (max a 0) 4096 * min (max b 0) 4096 > 262144
  · rw [if_pos h, if_pos h]; decide
  · rw [if_neg h, if_neg h]
    refine ⟨by omega, by omega, ?_⟩
    have e1 : ((min (max a 0) 4096).toNat : Int) = min (max a 0) 4096 := by omega
    have e2 : ((min (max b 0) 4096).toNat : Int) = min (max b 0) 4096 := by omega
    have : (((min (max a 0) 4096).toNat * (min (max b 0) 4096).toNat : Nat) : Int) ≤ 262144 := by
      rw [Int.natCast_mul, e1, e2]; omega
    omega
theorem nw_core (a b : Int) : (bif (decide ((IntKind.wrap .i64 ((mn (mx a (0:Int)) (4096:Int)) * (mn (mx b (0:Int)) (4096:Int)))) > (262144:Int))) then (0:Int) else (mn (mx a (0:Int)) (4096:Int))) = (nwX a b : Int)
    ∧ (bif (decide ((IntKind.wrap .i64 ((mn (mx a (0:Int)) (4096:Int)) * (mn (mx b (0:Int)) (4096:Int)))) > (262144:Int))) then (0:Int) else (mn (mx b (0:Int)) (4096:Int))) = (nwY a b : Int) := by
  simp only [mn_eq, mx_eq, bif_dec]
  have b1 : 0 ≤ min (max a 0) 4096 ∧ min (max a 0) 4096 ≤ 4096 := by omega
  have b2 : 0 ≤ min (max b 0) 4096 ∧ min (max b 0) 4096 ≤ 4096 := by omega
  unfold nwX nwY
  generalize min (max a 0) 4096 = x at *
  generalize min (max b 0) 4096 = y at *
  have p1 : 0 ≤ x * y := Int.mul_nonneg b1.1 b2.1
  have p2 : x * y ≤ 4096 * 4096 := Int.mul_le_mul b1.2 b2.2 b2.1 (by decide)
  rw [wi64 (by omega)]
  by_cases h : x * y > 262144
  · simp [h]
  · simp only [h, if_false]; omega
theorem new_eq (a b : Int) : F_943 a b 2 = some ((nwX a b : Int), (nwY a b : Int), 2, List.replicate (nwX a b * nwY a b) 0, ()) := by
  obtain ⟨e1, e2⟩ := nw_core a b
  obtain ⟨b1, b2, b3⟩ := nw_bd a b
  unfold F_943
  dsimp only
  rw [e1, e2, known_t]
  simp only [Option.bind_some]
  rw [wi64 (n := (nwX a b : Int) * (nwY a b : Int)) (by have : ((nwX a b : Int) * (nwY a b : Int)) = ((nwX a b * nwY a b : Nat) : Int) := by simp
                                                        omega)]
  have e3 : ((nwX a b : Int) * (nwY a b : Int)) = ((nwX a b * nwY a b : Nat) : Int) := by simp
  rw [e3, bif_dec, if_pos (by omega), Int.toNat_natCast]
  have : knownS 2 = true := by decide
  rw [this]
  simp
theorem newk_eq (a b : Int) : F_9bb a b 2 = some (((nwX a b : Int), (nwY a b : Int), 2, nwX a b * nwY a b, ()), (List.replicate (nwX a b * nwY a b) 0, ())) := by
  obtain ⟨e1, e2⟩ := nw_core a b
  obtain ⟨b1, b2, b3⟩ := nw_bd a b
  unfold F_9bb
  dsimp only
  rw [e1, e2, known_r]
  simp only [Option.bind_some]
  have e3 : ((nwX a b : Int) * (nwY a b : Int)) = ((nwX a b * nwY a b : Nat) : Int) := by simp
  rw [e3, wi64 (by omega), bif_dec, if_pos (by omega), Int.toNat_natCast]
  have : knownS 2 = true := by decide
  rw [this]
  rfl
noncomputable def mkM (d : Int) : Int := divf 1333788672 (intf (4294967296 - d))
noncomputable def mkH (d s t : Int) (i : Nat) : Int := if wordF s t (i : Int) < d then 0 else mkM d
noncomputable def mkT (a b d s t : Int) : TsT := ((nwX a b : Int), (nwY a b : Int), 2, (List.range (nwX a b * nwY a b)).map (mkH d s t), ())
theorem eachD_eq (t : TsT) (d s u m : Int) (hn : t.2.2.2.1.length ≤ 1073741824) :
    ∃ z, F_9ba t 2 [s] [u] [d] [m] = some ((t.1, t.2.1, 2, (List.range t.2.2.2.1.length).map (fun (i : Nat) => if wordF s u (i : Int) < d then 0 else m), ()), z) := by
  obtain ⟨r, c, f, l, ⟨⟩⟩ := t
  simp only at hn ⊢
  have := lim_seq (st := st_9ba_0) (fun i => ((l, ((l.length : Int), ((i : Int), ()))), ([s], ([u], ([d], ([m], (((0:Int), ((0:Int), ((0:Int), ()))), ((r, (c, ((2 : Int), (l.length, ())))), (lay1 (fun (i : Nat) => if wordF s u (i : Int) < d then 0 else m) l.length i, ())))))))))
    (b := ((), ([s], ([u], ([d], ([m], (((0:Int), ((0:Int), ((0:Int), ()))), ((r, (c, ((2 : Int), (l.length, ())))), (lay1 (fun (i : Nat) => if wordF s u (i : Int) < d then 0 else m) l.length l.length, ()))))))))) l.length
    (fun i hi R kn ko => by
      have hll := lay1_len (fun (i : Nat) => if wordF s u (i : Int) < d then 0 else m) (Nat.le_of_lt hi)
      have hls := lay1_set (fun (i : Nat) => if wordF s u (i : Int) < d then 0 else m) hi
      have e0 : ∀ x : Int, List.getD [x] 0 0 = x := fun x => rfl
      have ew := word_eq s u (n := (i : Int)) (by omega)
      unfold st_9ba_0 F_944
      dsimp only at hls ⊢
      simp only [List.take_length, bif_dec, hll, Int.toNat_natCast, List.length_singleton, e0]
      rw [if_pos (show (i : Int) < (l.length : Int) by omega), if_pos (show 0 ≤ (i : Int) ∧ (i : Int) < (l.length : Int) by omega)]
      simp only [show (0 : Nat) < 1 by decide, if_true]
      rw [wu64 (n := (i : Int)) (by omega), ew]
      simp only [Option.bind_some]
      have hw : (if wordF s u (i : Int) < d then (some ((0:Int), [s], [u], [d], [m], ())) else some (m, [s], [u], [d], [m], ())) = some ((if wordF s u (i : Int) < d then 0 else m), [s], [u], [d], [m], ()) := by split <;> rfl
      rw [hw]
      simp only [Option.bind_some]
      rw [if_pos (show (0 : Int) ≤ (i : Int) ∧ (i : Int) < (l.length : Int) by omega), if_pos (show 0 + i * 1 < l.length by omega), show 0 + i * 1 = i by omega, hls, wi64 (by omega), show ((i + 1 : Nat) : Int) = (i : Int) + 1 by omega])
    (fun R kn ko => by
      unfold st_9ba_0
      dsimp only
      simp only [List.take_length, bif_dec]
      rw [if_neg (by omega)])
  rw [lay1_zero] at this
  unfold F_9ba
  dsimp only
  simp only [List.take_length, bif_dec, Int.toNat_natCast]
  rw [if_pos (by omega)]
  have e : lim st_9ba_0 ((l, ((l.length : Int), ((0 : Int), ()))), ([s], ([u], ([d], ([m], (((0:Int), ((0:Int), ((0:Int), ()))), ((r, (c, ((2 : Int), (l.length, ())))), (List.replicate l.length 0, ())))))))) = _ := this
  rw [e]
  simp only [Option.bind_some, List.take_length, List.drop_zero, lay1_all]
  rw [List.take_of_length_le (by simp)]
  exact ⟨_, rfl⟩
theorem mask_eqA (a b s t : Int) {d : Int} (hd : w32 d) : F_91c a b d s t = some (mkT a b d s t) := by
  have d0 := hd.1
  have d1 := hd.2
  obtain ⟨b1, b2, b3⟩ := nw_bd a b
  unfold F_91c
  have e0 : List.getD [d] 0 0 = d := rfl
  rw [e0, wi64 (n := d) (by omega), wi64 (by omega), fsint_eq (by omega)]
  simp only [Option.bind_some]
  rw [fdiv_eq (wlit rfl) (intf_w _), new_eq]
  simp only [Option.bind_some, List.take_length]
  obtain ⟨z, hz⟩ := eachD_eq ((nwX a b : Int), (nwY a b : Int), 2, List.replicate (nwX a b * nwY a b) 0, ()) d s t (divf 1333788672 (intf (4294967296 - d))) (by simp; omega)
  rw [hz]
  simp only [Option.bind_some, List.take_length, List.length_replicate]
  rfl
theorem maskr_eqA (a b s t : Int) {d : Int} (hd : w32 d) : F_91d a b d s t = some (mkT a b d s t) := by
  have d0 := hd.1
  have d1 := hd.2
  obtain ⟨b1, b2, b3⟩ := nw_bd a b
  have c1 : intf 4294967296 = 1333788672 := by decide +kernel
  unfold F_91d
  rw [newk_eq, rint_eq (by omega), c1, wi64 (n := d) (by omega), wi64 (by omega), rint_eq (by omega)]
  simp only [Option.bind_some]
  rw [rdiv_eq (wlit rfl) (intf_w _)]
  simp only [Option.bind_some]
  unfold mkT
  generalize nwX a b * nwY a b = N at *
  have := lim_seq (st := st_91d_0) (fun i => ((d, (s, (t, (mkM d, ((i : Int), ()))))), (((0:Int), ((0:Int), ((0:Int), ()))), (((nwX a b : Int), ((nwY a b : Int), ((2 : Int), (N, ())))), (lay1 (mkH d s t) N i, ())))))
    (b := ((), (((0:Int), ((0:Int), ((0:Int), ()))), (((nwX a b : Int), ((nwY a b : Int), ((2 : Int), (N, ())))), (lay1 (mkH d s t) N N, ()))))) N
    (fun i hi R kn ko => by
      have hll := lay1_len (mkH d s t) (Nat.le_of_lt hi)
      have hls := lay1_set (mkH d s t) hi
      have ew := word_eq s t (n := (i : Int)) (by omega)
      unfold st_91d_0
      dsimp only
      simp only [bif_dec, hll, Int.toNat_natCast]
      rw [if_pos (show (i : Int) < (N : Int) by omega), wu64 (n := (i : Int)) (by omega), word_same, ew]
      simp only [Option.bind_some]
      rw [wi64 (n := (i : Int) + 1) (by omega), show ((i + 1 : Nat) : Int) = (i : Int) + 1 by omega]
      by_cases hw : wordF s t (i : Int) < d
      · have h0 : mkH d s t i = 0 := by unfold mkH; rw [if_pos hw]
        rw [if_neg (show ¬ wordF s t (i : Int) ≥ d by omega), lay1_same (mkH d s t) hi h0]
      · have h0 : mkH d s t i = mkM d := by unfold mkH; rw [if_neg hw]
        rw [if_pos (show wordF s t (i : Int) ≥ d by omega), if_pos (show 0 ≤ (i : Int) ∧ (i : Int) < (N : Int) by omega), if_pos (show 0 + i * 1 < N by omega), show 0 + i * 1 = i by omega, ← hls, h0])
    (fun R kn ko => by
      unfold st_91d_0
      dsimp only
      simp only [bif_dec]
      rw [if_neg (show ¬ (N : Int) < (N : Int) by omega)])
  rw [lay1_zero] at this
  have e : lim st_91d_0 ((d, (s, (t, (divf 1333788672 (intf (4294967296 - d)), ((0 : Int), ()))))), (((0:Int), ((0:Int), ((0:Int), ()))), (((nwX a b : Int), ((nwY a b : Int), ((2 : Int), (N, ())))), (List.replicate N 0, ())))) = _ := this
  rw [e]
  simp only [Option.bind_some, List.drop_zero, lay1_all]
  rw [List.take_of_length_le (by simp)]
end Go.Proofs.YtfpjkmgfkaoapaaGreat.VI

namespace Go.Proofs.YtfpjkmgfkaoapaaGreat.VI
set_option linter.unusedVariables false
set_option linter.unusedSimpArgs false
set_option maxRecDepth 100000
noncomputable def O_9a : Orc := (orm c_9c (orm c_91c (orm c_91d c_91b)))
theorem okO_9a : OrcOk PR O_9a := (orm_ok ok_9c (orm_ok ok_91c (orm_ok ok_91d ok_91b)))
abbrev fa_9a : Fm := (.pair (.i .i64) (.pair (.i .i64) (.pair (.i .u8) (.pair (.i .u8) (.pair (.i .u32) (.pair (.i .u64) (.pair (.i .u32) .unit)))))))
abbrev ha_9a : List BF := []
abbrev fr_9a : Fm := .b
abbrev hr_9a : List BF := []
noncomputable def L_9a : Lps := (lpB 8 (.un 4 [4, 5, 6, 16, 35, 36, 37, 44, 45, 46]) (lpB 5 (.un 4 [4, 5, 6, 35, 36, 37]) L0))
def inn_9a : T fr_9a → TH hr_9a → Bool := (fun z w => z)
def out_9a : Bool → T fr_9a × TH hr_9a := fun r => (r, ())
noncomputable def F_9a (a0 : Int) (a1 : Int) (a2 : Int) (a3 : Int) (a4 : Int) (a5 : Int) (a6 : Int) : Option (Bool) :=
 let x0 : Int := (IntKind.wrap .i64 (Int.tmod a2 (9:Int)))
 let x1 : Int := (IntKind.wrap .i64 (Int.tmod a3 (9:Int)))
 let x2 : List Int := [a4, (a4 / (2:Int)), (0:Int)]
 let x3 : Int := (List.getD x2 (0:Nat) (0:Int))
 let x4 : Int := (List.getD x2 (1:Nat) (0:Int))
 let x5 : Int := (List.getD x2 (2:Nat) (0:Int))
 let x6 : Int := (bits .and .i64 (IntKind.wrap .i64 ((0:Int) - a0)) (7:Int))
 let x7 : Int := (bits .and .i64 a1 (7:Int))
 (F_9c).bind fun r8 =>
 bif (!r8) then
 (some false)
 else
 ((F_91c x0 x1 x3 a5 a6)).bind fun r9 =>
 let x10 : Int := r9.2.2.1
 let x11 : List Int := r9.2.2.2.1
 ((F_91d x0 x1 x3 a5 a6)).bind fun r12 =>
 let x13 : Int := r12.2.2.1
 let x14 : List Int := r12.2.2.2.1
 ((F_91b (r9.1, (r9.2.1, (x10, ((List.take (List.length x11) x11), ())))) (r12.1, (r12.2.1, (x13, ((List.take (List.length x14) x14), ())))))).bind fun r15 =>
 bif (!r15) then
 (some false)
 else
 ((F_91c x0 x1 x4 a5 a6)).bind fun r16 =>
 let x17 : Int := r16.2.2.1
 let x18 : List Int := r16.2.2.2.1
 ((F_91d x0 x1 x4 a5 a6)).bind fun r19 =>
 let x20 : Int := r19.2.2.1
 let x21 : List Int := r19.2.2.2.1
 ((F_91b (r16.1, (r16.2.1, (x17, ((List.take (List.length x18) x18), ())))) (r19.1, (r19.2.1, (x20, ((List.take (List.length x21) x21), ())))))).bind fun r22 =>
 bif (!r22) then
 (some false)
 else
 ((F_91c x0 x1 x5 a5 a6)).bind fun r23 =>
 let x24 : Int := r23.2.2.1
 let x25 : List Int := r23.2.2.2.1
 ((F_91d x0 x1 x5 a5 a6)).bind fun r26 =>
 let x27 : Int := r26.2.2.1
 let x28 : List Int := r26.2.2.2.1
 ((F_91b (r23.1, (r23.2.1, (x24, ((List.take (List.length x25) x25), ())))) (r26.1, (r26.2.1, (x27, ((List.take (List.length x28) x28), ())))))).bind fun r29 =>
 bif (!r29) then
 (some false)
 else
 ((F_91c x6 x7 x3 a5 a6)).bind fun r30 =>
 let x31 : Int := r30.2.2.1
 let x32 : List Int := r30.2.2.2.1
 ((F_91d x6 x7 x3 a5 a6)).bind fun r33 =>
 let x34 : Int := r33.2.2.1
 let x35 : List Int := r33.2.2.2.1
 ((F_91b (r30.1, (r30.2.1, (x31, ((List.take (List.length x32) x32), ())))) (r33.1, (r33.2.1, (x34, ((List.take (List.length x35) x35), ())))))).bind fun r36 =>
 bif (!r36) then
 (some false)
 else
 ((F_91c x6 x7 x4 a5 a6)).bind fun r37 =>
 let x38 : Int := r37.2.2.1
 let x39 : List Int := r37.2.2.2.1
 ((F_91d x6 x7 x4 a5 a6)).bind fun r40 =>
 let x41 : Int := r40.2.2.1
 let x42 : List Int := r40.2.2.2.1
 ((F_91b (r37.1, (r37.2.1, (x38, ((List.take (List.length x39) x39), ())))) (r40.1, (r40.2.1, (x41, ((List.take (List.length x42) x42), ())))))).bind fun r43 =>
 bif (!r43) then
 (some false)
 else
 ((F_91c x6 x7 x5 a5 a6)).bind fun r44 =>
 let x45 : Int := r44.2.2.1
 let x46 : List Int := r44.2.2.2.1
 ((F_91d x6 x7 x5 a5 a6)).bind fun r47 =>
 let x48 : Int := r47.2.2.1
 let x49 : List Int := r47.2.2.2.1
 ((F_91b (r44.1, (r44.2.1, (x45, ((List.take (List.length x46) x46), ())))) (r47.1, (r47.2.1, (x48, ((List.take (List.length x49) x49), ())))))).bind fun r50 =>
 bif (!r50) then
 (some false)
 else
 ((F_91c (600:Int) (600:Int) x3 a5 a6)).bind fun r51 =>
 let x52 : Int := r51.2.2.1
 let x53 : List Int := r51.2.2.2.1
 ((F_91d (600:Int) (600:Int) x3 a5 a6)).bind fun r54 =>
 let x55 : Int := r54.2.2.1
 let x56 : List Int := r54.2.2.2.1
 ((F_91b (r51.1, (r51.2.1, (x52, ((List.take (List.length x53) x53), ())))) (r54.1, (r54.2.1, (x55, ((List.take (List.length x56) x56), ())))))).bind fun r57 =>
 bif (!r57) then
 (some false)
 else
 ((F_91c (600:Int) (600:Int) x4 a5 a6)).bind fun r58 =>
 let x59 : Int := r58.2.2.1
 let x60 : List Int := r58.2.2.2.1
 ((F_91d (600:Int) (600:Int) x4 a5 a6)).bind fun r61 =>
 let x62 : Int := r61.2.2.1
 let x63 : List Int := r61.2.2.2.1
 ((F_91b (r58.1, (r58.2.1, (x59, ((List.take (List.length x60) x60), ())))) (r61.1, (r61.2.1, (x62, ((List.take (List.length x63) x63), ())))))).bind fun r64 =>
 bif (!r64) then
 (some false)
 else
 ((F_91c (600:Int) (600:Int) x5 a5 a6)).bind fun r65 =>
 let x66 : Int := r65.2.2.1
 let x67 : List Int := r65.2.2.2.1
 ((F_91d (600:Int) (600:Int) x5 a5 a6)).bind fun r68 =>
 let x69 : Int := r68.2.2.1
 let x70 : List Int := r68.2.2.2.1
 ((F_91b (r65.1, (r65.2.1, (x66, ((List.take (List.length x67) x67), ())))) (r68.1, (r68.2.1, (x69, ((List.take (List.length x70) x70), ())))))).bind fun r71 =>
 bif (!r71) then
 (some false)
 else
 (some true)
noncomputable def G_9a : T fa_9a → TH ha_9a → Option (Bool) := fun x y => F_9a x.1 x.2.1 x.2.2.1 x.2.2.2.1 x.2.2.2.2.1 x.2.2.2.2.2.1 x.2.2.2.2.2.2.1
noncomputable def c_9a : Orc := ent i_9a [] 0 (sp fa_9a ha_9a fr_9a hr_9a G_9a out_9a)
theorem ok_9a : OrcOk PR c_9a := fnT okO_9a mixed p_9a (by kernel_rfl) (by kernel_rfl) (L := L_9a) (kp := false) (by kernel_rfl) (inn := inn_9a) (out := out_9a) (fun _ _ => rfl) (loopsL (l := []) (by kernel_rfl) trivial) (fun x y => by kernel_rfl)
end Go.Proofs.YtfpjkmgfkaoapaaGreat.VI

namespace Go.Proofs.YtfpjkmgfkaoapaaGreat.VI
set_option linter.unusedVariables false
set_option linter.unusedSimpArgs false
set_option maxRecDepth 100000
set_option maxHeartbeats 8000000
noncomputable def MBd (a b d s t : Int) (K : Option Bool) : Option Bool :=
  (F_91c a b d s t).bind fun r9 =>
  (F_91d a b d s t).bind fun r12 =>
  (F_91b (tk r9) (tk r12)).bind fun r15 =>
  bif (!r15) then (some false) else K
theorem mb_ok (a b s t : Int) {d : Int} (hd : w32 d) (K : Option Bool) : MBd a b d s t K = K := by
  obtain ⟨b1, b2, b3⟩ := nw_bd a b
  unfold MBd
  rw [mask_eqA a b s t hd, maskr_eqA a b s t hd]
  simp only [Option.bind_some, tk_id]
  rw [tens_eq _ _ (by unfold mkT; simp; omega)]
  simp
theorem actMasks {a b c d e f g : Int} (he : w32 e) : F_9a a b c d e f g = some true := by
  have e0 := he.1
  have e1 := he.2
  have un : F_9a a b c d e f g =
    F_9c.bind fun r8 =>
    bif (!r8) then (some false) else
    MBd (IntKind.wrap .i64 (Int.tmod c (9:Int))) (IntKind.wrap .i64 (Int.tmod d (9:Int))) e f g <|
    MBd (IntKind.wrap .i64 (Int.tmod c (9:Int))) (IntKind.wrap .i64 (Int.tmod d (9:Int))) (e / (2:Int)) f g <|
    MBd (IntKind.wrap .i64 (Int.tmod c (9:Int))) (IntKind.wrap .i64 (Int.tmod d (9:Int))) (0:Int) f g <|
    MBd (bits .and .i64 (IntKind.wrap .i64 ((0:Int) - a)) (7:Int)) (bits .and .i64 b (7:Int)) e f g <|
    MBd (bits .and .i64 (IntKind.wrap .i64 ((0:Int) - a)) (7:Int)) (bits .and .i64 b (7:Int)) (e / (2:Int)) f g <|
    MBd (bits .and .i64 (IntKind.wrap .i64 ((0:Int) - a)) (7:Int)) (bits .and .i64 b (7:Int)) (0:Int) f g <|
    MBd (600:Int) (600:Int) e f g <| MBd (600:Int) (600:Int) (e / (2:Int)) f g <| MBd (600:Int) (600:Int) (0:Int) f g <| some true := by kernel_rfl
  have h2 : w32 (e / 2) := ⟨by omega, by omega⟩
  rw [un, known15]
  simp only [Option.bind_some, Bool.not_true, cond_false]
  rw [mb_ok _ _ _ _ he, mb_ok _ _ _ _ h2, mb_ok _ _ _ _ w0, mb_ok _ _ _ _ he, mb_ok _ _ _ _ h2, mb_ok _ _ _ _ w0, mb_ok _ _ _ _ he, mb_ok _ _ _ _ h2, mb_ok _ _ _ _ w0]
theorem callActMasks : ∀ l, args [.i .i64, .i .i64, .i .u8, .i .u8, .i .u32, .i .u64, .i .u32] l → oks l → CallOk PR i_9a l [] fun r _ => r = .b true :=
  rowT (fa := fa_9a) (F := G_9a) rfl rfl ok_9a (enters p_9a (by kernel_rfl) (by kernel_rfl)) rfl fun x hx =>
    actMasks ⟨hx.2.2.2.2.1.1, Int.lt_add_one_of_le hx.2.2.2.2.1.2⟩
end Go.Proofs.YtfpjkmgfkaoapaaGreat.VI

namespace Go.Proofs.YtfpjkmgfkaoapaaGreat.VI
set_option linter.unusedVariables false
set_option linter.unusedSimpArgs false
open Go.ChangeShapes Go.WideShapes Go.RowKit Go.WideElems YtfpjkmgfkaoapaaGreat
set_option maxRecDepth 100000
theorem laid : laidOutB Tryz.prog = true := by kernel_rfl
theorem own : ownKnob Tryz.prog.godebug = none := by kernel_rfl
theorem lifted (os : Os) (started : os.Started) (H : Type) (enc : TypeId × Value → H) :
    ReturnsInHanded {} Tryz.checked os 5 .any (Rows.actMasksSpec.pre6 enc Tryz.prog Tryz.f5 Rows.actMasksRow.domain false) (Rows.actMasksSpec.post enc Tryz.prog Tryz.f5 false true false false) :=
  lift_args (C := Tryz.checked) own started (by kernel_rfl) Tryz.func5
    (ChangeSpec.witness6 (enc := enc) (C := Tryz.checked) false ⟨#[], #[.int .i64 0, .int .i64 0, .int .u8 0, .int .u8 0, .int .u32 0, .int .u64 0, .int .u32 0], []⟩ 8 (by kernel_rfl) (by kernel_rfl) (by kernel_rfl) (by kernel_rfl))
    laid Tryz.underlying4 rfl (by kernel_rfl) rfl (fun ds hd => match ds, hd with
    | [_, _, _, _, _, _, _], _ => rfl) (d := 6) (by kernel_rfl) (Fs := [.i .i64, .i .i64, .i .u8, .i .u8, .i .u32, .i .u64, .i .u32]) (by kernel_rfl) callActMasks
theorem over : Rows.actMasksRow.holds Tryz.pinned (OpenSpec.ofChange Rows.actMasksSpec) :=
  OpenClaim.holds_of_wide 5 Tryz.f5 rfl rfl rfl rfl rfl rfl rfl ⟨rfl, rfl, rfl, rfl, rfl⟩ rfl rfl rfl rfl rfl (by kernel_rfl) Tryz.func5 (by kernel_rfl)
    (of_decide_eq_true (by kernel_rfl)) (by unfold Func.isWrapper; first | (rw [if_pos (by decide +kernel)]; kernel_rfl) | (rw [if_neg (by decide +kernel)]; exact ⟨rfl, rfl⟩))
    (fun os started H enc _ => lifted os started H enc)
end Go.Proofs.YtfpjkmgfkaoapaaGreat.VI
