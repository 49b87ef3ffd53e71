import Derived.Test.YtfpjkmgfkaoapaaGreatTee148449
import Derived.Test.YtfpjkmgfkaoapaaGreatRows
import Derived.WalkKit
import Derived.ProofKit
namespace Go.Proofs.YtfpjkmgfkaoapaaGreat.VI
set_option linter.unusedVariables false
set_option linter.unusedSimpArgs false
set_option maxRecDepth 100000
set_option maxHeartbeats 4000000
def mildP (f v : Int) : Prop := nan f v = false ∧ inff f v = false ∧ (v % TT f = 0 → v = 0)
theorem mild_p {k : Int} (f : Int) (h : w32 k) : ∃ v, F_914 f k = some v ∧ wf f v ∧ mildP f v := by
  have fb := fmt_bd f
  unfold F_914
  rw [bif_eq]
  by_cases h0 : Int.tmod k 7 = 0
  · rw [if_pos h0]; refine ⟨0, rfl, ⟨by omega, by omega⟩, ?_⟩
    have ib := IN_bd f
    refine ⟨?_, ?_, fun _ => rfl⟩
    · unfold nan; rw [Int.zero_emod]; exact decide_eq_false (by omega)
    · unfold inff; rw [Int.zero_emod]; exact decide_eq_false (by omega)
  rw [if_neg h0, zeror_w, ← widr_nf f]
  have key : ∀ (x : Int), 0 < x → x < IN f → (x % (TT f) = x ∧ (TT f + x) % TT f = x) := by
    intro x h1 h2
    have ib := IN_bd f
    refine ⟨Int.emod_eq_of_lt (by omega) (by omega), ?_⟩
    rw [Int.add_comm, Int.add_emod_right]; exact Int.emod_eq_of_lt (by omega) (by omega)
  have fin : ∀ (x : Int), 0 < x → x < IN f → ∃ v, (bif (bits .and .u32 k 1 == 1) then some (bits .or .u32 x (sgn f true)) else some x) = some v ∧ wf f v ∧ mildP f v := by
    intro x h1 h2
    have ib := IN_bd f
    have kx := key x h1 h2
    cases bits .and .u32 k 1 == 1
    · refine ⟨x, rfl, ⟨by omega, by omega⟩, ?_, ?_, ?_⟩
      · unfold nan; rw [kx.1]; simp; omega
      · unfold inff; rw [kx.1]; simp; omega
      · rw [kx.1]; intro q; exact q
    · have e : bits .or .u32 x (sgn f true) = TT f + x := by
        rw [or_comm32, sgn_or f true ⟨by omega, by omega⟩]; unfold sgn; simp
      refine ⟨TT f + x, by rw [e]; rfl, ⟨by omega, by omega⟩, ?_, ?_, ?_⟩
      · unfold nan; rw [kx.2]; simp; omega
      · unfold inff; rw [kx.2]; simp; omega
      · rw [kx.2]; intro q; omega
  have hd : Int.tmod (k / 8) 4096 = k / 8 % 4096 ∧ Int.tmod (k / 8) 512 = k / 8 % 512 ∧ Int.tmod (k / 8) 33554432 = k / 8 % 33554432 := by
    have : 0 ≤ k / 8 := by have := h.1; omega
    exact ⟨tmod_nn this, tmod_nn this, tmod_nn this⟩
  have hI : IN f = (RR f - 1) * BB f := rfl
  rw [← nf_RR f, ← nf_BB f] at hI
  rcases nf_cases f with e | e | e <;> rw [e] at hI ⊢
  · have hI2 : IN f = 31744 := hI
    have := fin (IntKind.wrap .u32 (13312 + Int.tmod (k / 8) 4096)) (by rw [hd.1, wu32 (by omega)]; omega) (by rw [hd.1, wu32 (by omega)]; omega)
    exact this
  · have hI2 : IN f = 32640 := hI
    have := fin (IntKind.wrap .u32 (16000 + Int.tmod (k / 8) 512)) (by rw [hd.2.1, wu32 (by omega)]; omega) (by rw [hd.2.1, wu32 (by omega)]; omega)
    exact this
  · have hI2 : IN f = 2139095040 := hI
    have := fin (IntKind.wrap .u32 (1048576000 + Int.tmod (k / 8) 33554432)) (by rw [hd.2.2, wu32 (by omega)]; omega) (by rw [hd.2.2, wu32 (by omega)]; omega)
    exact this
theorem num_wf (f : Int) {k : Int} (h : w32 k) : ∃ v, F_913 f k = some v ∧ wf f v := by
  unfold F_913
  rw [maskr_eq, zeror_w, ← widr_nf f]
  have h15 : (0:Int) ≤ Int.tmod k 15 ∧ Int.tmod k 15 < 15 := by rw [tmod_nn h.1]; omega
  have o : ∀ y, wf f (bits .or .u32 (bits .and .u32 y (2 * TT f - 1)) (sgn f true)) := fun y => by
    have := or_top_bd f y
    unfold sgn; exact this
  rcases nf_cases f with e | e | e <;> rw [e]
  all_goals
    show ∃ v, (bif decide ((0:Int) ≤ Int.tmod k 15 ∧ Int.tmod k 15 < 15) then (bif decide ((0:Nat) + (Int.toNat (Int.tmod k 15)) * 1 < 15) then (bif (k / 2147483648 == 1) then some (bits .or .u32 (bits .and .u32 _ (2 * TT f - 1)) (sgn f true)) else some (bits .and .u32 _ (2 * TT f - 1))) else none) else none) = some v ∧ wf f v
    rw [bif_dec, if_pos h15, bif_dec, if_pos (by omega)]
    cases k / 2147483648 == 1
    · exact ⟨_, rfl, and_mask_bd f _⟩
    · exact ⟨_, rfl, o _⟩
theorem wrap_w (n : Int) : w32 (IntKind.wrap .u32 n) := by rw [wu32_eq]; exact ⟨by omega, by omega⟩
theorem seatT (R C : Nat) (f : Int) (l : List Int) (m : Bool) (hR : R ≤ 4096) (hC : C ≤ 4096) (hl : l.length < 4611686018427387904) :
    ∃ V, F_9d (R : Int) (C : Int) f l m = some ((R : Int), (C : Int), f, V, ()) ∧ V.length = R * C ∧ (∀ v ∈ V, wf f v) ∧ (m = true → ∀ v ∈ V, mildP f v) := by
  have hb := rc_bd hR hC
  have hRC : ((R : Int) * (C : Int)) = ((R * C : Nat) : Int) := by simp
  obtain ⟨r, hr, V, hr2, lV, wV, mV⟩ := lim_post (st := st_9d_0)
    (fun v => ∃ (i : Nat) (V : List Int), v = (((R : Int), ((C : Int), (f, (l, (m, ((i : Int), ())))))), (((0:Int), ((0:Int), ((0:Int), ()))), (((R : Int), ((C : Int), (f, ((i : Nat), ())))), (V, ())))) ∧ i ≤ R * C ∧ V.length = i ∧ (∀ v ∈ V, wf f v) ∧ (m = true → ∀ v ∈ V, mildP f v))
    (fun v => R * C + 1 - v.2.2.1.2.2.2.1)
    (fun r => ∃ (V : List Int), r = ((), (((0:Int), ((0:Int), ((0:Int), ()))), (((R : Int), ((C : Int), (f, ((R * C : Nat), ())))), (V, ())))) ∧ V.length = R * C ∧ (∀ v ∈ V, wf f v) ∧ (m = true → ∀ v ∈ V, mildP f v))
    (fun v hv => by
      obtain ⟨i, V, rfl, h1, h2, h3, h4⟩ := hv
      by_cases hi : i < R * C
      · left
        have h30 : i + 1 ≤ 1073741824 := by omega
        have stp : ∃ v, (∀ R' kn ko, st_9d_0 R' (((R : Int), ((C : Int), (f, (l, (m, ((i : Int), ())))))), (((0:Int), ((0:Int), ((0:Int), ()))), (((R : Int), ((C : Int), (f, ((i : Nat), ())))), (V, ())))) kn ko = kn (((R : Int), ((C : Int), (f, (l, (m, (((i + 1 : Nat) : Int), ())))))), (((0:Int), ((0:Int), ((0:Int), ()))), (((R : Int), ((C : Int), (f, ((i + 1 : Nat), ())))), (V ++ [v], ()))))) ∧ wf f v ∧ (m = true → mildP f v) := by
          by_cases hl0 : ((l.length : Nat) : Int) > 0
          · have ht : 0 ≤ Int.tmod (i : Int) ((l.length : Nat) : Int) ∧ Int.tmod (i : Int) ((l.length : Nat) : Int) < ((l.length : Nat) : Int) := by
              rw [tmod_nn (by omega)]; exact ⟨Int.emod_nonneg _ (by omega), Int.emod_lt_of_pos _ hl0⟩
            have hz : (((l.length : Nat) : Int) == 0) = false := beq_false_of_ne (by omega)
            cases m
            · obtain ⟨v, hv, hw⟩ := num_wf f  (k := (IntKind.wrap .u32 ((List.getD l (Int.toNat (Int.tmod (i : Int) ((l.length : Nat) : Int))) (0:Int)) + (IntKind.wrap .u32 ((IntKind.wrap .u32 (IntKind.wrap .i64 (Int.tdiv (i : Int) ((l.length : Nat) : Int)))) * (40503:Int)))))) (wrap_w _)
              refine ⟨v, fun R' kn ko => ?_, hw, fun h => by cases h⟩
              unfold st_9d_0
              dsimp only
              simp only [List.take_length, bif_dec, hz, hRC]
              rw [wi64 (n := ((R * C : Nat) : Int)) (by omega), if_pos (show (i : Int) < ((R * C : Nat) : Int) by omega), if_pos hl0, cond_false, if_pos ht, cond_false, cond_false, hv, wi64 (n := (i : Int) + 1) (by omega), show ((i + 1 : Nat) : Int) = (i : Int) + 1 by omega]
              rw [List.take_of_length_le (show V.length ≤ i by omega)]
              simp only [Option.bind_some]
              rw [if_pos h30]
            · obtain ⟨v, hv, hw, hm⟩ := mild_p f  (k := (IntKind.wrap .u32 ((List.getD l (Int.toNat (Int.tmod (i : Int) ((l.length : Nat) : Int))) (0:Int)) + (IntKind.wrap .u32 ((IntKind.wrap .u32 (IntKind.wrap .i64 (Int.tdiv (i : Int) ((l.length : Nat) : Int)))) * (40503:Int)))))) (wrap_w _)
              refine ⟨v, fun R' kn ko => ?_, hw, fun _ => hm⟩
              unfold st_9d_0
              dsimp only
              simp only [List.take_length, bif_dec, hz, hRC]
              rw [wi64 (n := ((R * C : Nat) : Int)) (by omega), if_pos (show (i : Int) < ((R * C : Nat) : Int) by omega), if_pos hl0, cond_false, if_pos ht, cond_false, cond_true, hv, wi64 (n := (i : Int) + 1) (by omega), show ((i + 1 : Nat) : Int) = (i : Int) + 1 by omega]
              rw [List.take_of_length_le (show V.length ≤ i by omega)]
              simp only [Option.bind_some]
              rw [if_pos h30]
          · cases m
            · obtain ⟨v, hv, hw⟩ := num_wf f  (k := (IntKind.wrap .u32 ((IntKind.wrap .u32 (i : Int)) * (2654435761:Int)))) (wrap_w _)
              refine ⟨v, fun R' kn ko => ?_, hw, fun h => by cases h⟩
              unfold st_9d_0
              dsimp only
              simp only [List.take_length, bif_dec, hRC]
              rw [wi64 (n := ((R * C : Nat) : Int)) (by omega), if_pos (show (i : Int) < ((R * C : Nat) : Int) by omega), if_neg hl0, cond_false, hv, wi64 (n := (i : Int) + 1) (by omega), show ((i + 1 : Nat) : Int) = (i : Int) + 1 by omega]
              rw [List.take_of_length_le (show V.length ≤ i by omega)]
              simp only [Option.bind_some]
              rw [if_pos h30]
            · obtain ⟨v, hv, hw, hm⟩ := mild_p f  (k := (IntKind.wrap .u32 ((IntKind.wrap .u32 (i : Int)) * (2654435761:Int)))) (wrap_w _)
              refine ⟨v, fun R' kn ko => ?_, hw, fun _ => hm⟩
              unfold st_9d_0
              dsimp only
              simp only [List.take_length, bif_dec, hRC]
              rw [wi64 (n := ((R * C : Nat) : Int)) (by omega), if_pos (show (i : Int) < ((R * C : Nat) : Int) by omega), if_neg hl0, cond_true, hv, wi64 (n := (i : Int) + 1) (by omega), show ((i + 1 : Nat) : Int) = (i : Int) + 1 by omega]
              rw [List.take_of_length_le (show V.length ≤ i by omega)]
              simp only [Option.bind_some]
              rw [if_pos h30]
        obtain ⟨v, hs, hw, hm⟩ := stp
        refine ⟨_, hs, ⟨i + 1, V ++ [v], rfl, by omega, by simp [h2], ?_, ?_⟩, by simp only; omega⟩
        · intro c hc; rcases List.mem_append.1 hc with q | q
          · exact h3 c q
          · simp at q; rw [q]; exact hw
        · intro hmt c hc; rcases List.mem_append.1 hc with q | q
          · exact h4 hmt c q
          · simp at q; rw [q]; exact hm hmt
      · right
        have e : i = R * C := by omega
        subst e
        refine ⟨_, fun R' kn ko => ?_, ⟨V, rfl, h2, h3, h4⟩⟩
        unfold st_9d_0
        dsimp only
        simp only [List.take_length, bif_dec, hRC]
        rw [wi64 (n := ((R * C : Nat) : Int)) (by omega), if_neg (show ¬ ((R * C : Nat) : Int) < ((R * C : Nat) : Int) by omega)])
    (((R : Int), ((C : Int), (f, (l, (m, ((0:Int), ())))))), (((0:Int), ((0:Int), ((0:Int), ()))), (((R : Int), ((C : Int), (f, ((0:Nat), ())))), ([], ()))))
    ⟨0, [], rfl, by omega, rfl, fun c hc => absurd hc (by simp), fun _ c hc => absurd hc (by simp)⟩
  refine ⟨V, ?_, lV, wV, mV⟩
  unfold F_9d
  rw [List.take_length, hr, hr2]
  simp only [Option.bind_some, List.drop_zero]
  rw [List.take_of_length_le (by omega)]
theorem wf_wl {f : Int} {V : List Int} (h : ∀ v ∈ V, wf f v) : wl V := fun a ha => wf_w (h a ha)
theorem wf_right {R C : Nat} {f : Int} {V : List Int} (hR : R ≤ 4096) (hC : C ≤ 4096) (hl : V.length = R * C) (hf : knownS f = true) (h : ∀ v ∈ V, wf f v) : rightS ((R : Int), (C : Int), f, V, ()) = true :=
  right_mk hR hC hl hf (List.all_eq_true.2 fun a ha => decide_eq_true (h a ha).2)
end Go.Proofs.YtfpjkmgfkaoapaaGreat.VI

namespace Go.Proofs.YtfpjkmgfkaoapaaGreat.VI
set_option linter.unusedVariables false
set_option linter.unusedSimpArgs false
set_option maxRecDepth 100000
set_option maxHeartbeats 8000000
theorem wider_eq (t : TsT) {i : Nat} (hl : wl t.2.2.2.1) (hi : i < t.2.2.2.1.length) : F_93f t (i : Int) = some (gl (wideL t) i) := by
  obtain ⟨r, c, f, l, ⟨⟩⟩ := t
  simp only at hl hi
  unfold F_93f F_911
  dsimp only
  rw [bif_dec, if_pos (by omega), Int.toNat_natCast, tor_eq f 2 0 (wl_get hl i)]
  simp only [Option.bind_some]
  unfold wideL
  have : gl ((List.range l.length).map fun i => widen f (l.getD i 0)) i = widen f (l.getD i 0) := by
    unfold gl; rw [List.getD_eq_getElem?_getD, List.getElem?_map, List.getElem?_range hi]; rfl
  rw [this]; rfl
def tk (a : TsT) : TsT := (a.1, (a.2.1, (a.2.2.1, ((List.take (List.length a.2.2.2.1) a.2.2.2.1), ()))))
theorem tk_id (a : TsT) : tk a = a := by unfold tk; rw [List.take_length]
theorem light_len {a : TsT} (h : F_912 a = some true) : a.2.2.2.1.length ≤ 60 := by
  unfold F_912 at h
  rw [bif_dec] at h
  by_cases k : ((List.length a.2.2.2.1 : Nat) : Int) ≤ 60
  · omega
  · rw [if_neg k] at h; cases h
theorem light_some (a : TsT) : ∃ b, F_912 a = some b := by
  unfold F_912
  simp only [bif_dec]
  (repeat' split) <;> exact ⟨_, rfl⟩
theorem tmod5 {a : Int} (h : 0 ≤ a) : ∃ n : Nat, IntKind.wrap .i64 (Int.tmod a 5) = n ∧ n ≤ 4 := by
  refine ⟨(a % 5).toNat, ?_, by omega⟩
  rw [tmod_nn h, wi64 (by omega)]; omega
end Go.Proofs.YtfpjkmgfkaoapaaGreat.VI

namespace Go.Proofs.YtfpjkmgfkaoapaaGreat.VI
set_option linter.unusedVariables false
set_option linter.unusedSimpArgs false
set_option maxRecDepth 100000
set_option maxHeartbeats 4000000
theorem narrowr_eq (f : Int) {a : Int} (ha : w32 a) : F_9f f a = some (narrow f a) := by
  unfold F_9f narrow; rw [tor_eq 2 f 0 ha]; rfl
theorem gl_mapA {h : Nat → Int} {n i : Nat} (hi : i < n) : gl ((List.range n).map h) i = h i := by
  unfold gl; rw [List.getD_eq_getElem?_getD]; simp [hi]
theorem wideL_get (t : TsT) {i : Nat} (h : i < t.2.2.2.1.length) : gl (wideL t) i = widen t.2.2.1 (t.2.2.2.1.getD i 0) := by
  unfold wideL; rw [gl_mapA h]
theorem act_k (k : Int) : F_928 k = some (decide (0 ≤ k ∧ k ≤ 3)) := by
  unfold F_928
  simp only [bif_dec]
  by_cases h : 0 ≤ k <;> simp [h]
theorem actr_k (k : Int) : F_93e k = some (decide (0 ≤ k ∧ k ≤ 3)) := act_k k
def fwdL (k : Int) (t : TsT) : List Int := (List.range t.2.2.2.1.length).map (fun i => narrow t.2.2.1 (valS k (widen t.2.2.1 (t.2.2.2.1.getD i 0))))
def fwdT (k : Int) (t : TsT) : TsT × Int × Unit := if rightS t then (if 0 ≤ k ∧ k ≤ 3 then ((t.1, t.2.1, t.2.2.1, fwdL k t, ()), 0, ()) else (noT, 22, ())) else (noT, 21, ())
theorem fwd_all (t : TsT) (k : Int) (hl : wl t.2.2.2.1) (hn : t.2.2.2.1.length ≤ 1073741824) : F_9e k t = some (fwdT k t) := by
  unfold fwdT
  by_cases hr : rightS t = true
  · rw [if_pos hr]
    by_cases hk : 0 ≤ k ∧ k ≤ 3
    · rw [if_pos hk, fwd_eq t k (valS k) (fun x hx => ⟨val_eq k hx, val_w k hx⟩) hl hn hk hr]; rfl
    · rw [if_neg hk]
      obtain ⟨r, c, f, l, ⟨⟩⟩ := t
      simp only at hl hn
      unfold F_9e
      dsimp only
      simp only [List.take_length]
      have e0 : List.getD [k] 0 0 = k := rfl
      rw [right_eq (r, c, f, l, ()) hl (by simp only; omega), hr, e0, act_k]
      simp only [Option.bind_some, Bool.not_true, cond_false]
      rw [decide_eq_false hk]; rfl
  · rw [if_neg hr]
    rw [Bool.not_eq_true] at hr
    obtain ⟨r, c, f, l, ⟨⟩⟩ := t
    simp only at hl hn
    unfold F_9e
    dsimp only
    simp only [List.take_length]
    rw [right_eq (r, c, f, l, ()) hl (by simp only; omega), hr]
    rfl
theorem fwdr_all (t : TsT) (k : Int) (hl : wl t.2.2.2.1) (hn : t.2.2.2.1.length ≤ 1073741824) : F_918 k t = some (fwdT k t) := by
  unfold fwdT
  obtain ⟨r, c, f, l, ⟨⟩⟩ := t
  simp only at hl hn
  by_cases hr : rightS (r, c, f, l, ()) = true
  · rw [if_pos hr]
    by_cases hk : 0 ≤ k ∧ k ≤ 3
    · rw [if_pos hk]
      have := lim_seq (st := st_918_0) (fun i => ((k, ((i : Int), ())), ((r, (c, (f, (l, ())))), (((0:Int), ((0:Int), ((0:Int), ()))), ((r, (c, (f, (l.length, ())))), (lay1 (fun i => narrow f (valS k (widen f (l.getD i 0)))) l.length i, ()))))))
        (b := ((), (((0:Int), ((0:Int), ((0:Int), ()))), ((r, (c, (f, (l.length, ())))), (lay1 (fun i => narrow f (valS k (widen f (l.getD i 0)))) l.length l.length, ()))))) l.length
        (fun i hi R kn ko => by
          have hll := lay1_len (fun i => narrow f (valS k (widen f (l.getD i 0)))) (Nat.le_of_lt hi)
          have hls := lay1_set (fun i => narrow f (valS k (widen f (l.getD i 0)))) hi
          have e1 := wider_eq (r, c, f, l, ()) (i := i) hl hi
          rw [wideL_get (r, c, f, l, ()) hi] at e1
          have hw := widen_w f (l.getD i 0)
          unfold st_918_0
          dsimp only at hls e1 ⊢
          simp only [List.take_length, bif_dec, hll, Int.toNat_natCast]
          rw [if_pos (show (i : Int) < (l.length : Int) by omega)]
          rw [show F_93f (r, (c, (f, (l, ())))) (i : Int) = _ from e1]
          simp only [Option.bind_some]
          rw [valr_eq k hw]
          simp only [Option.bind_some]
          rw [narrowr_eq f (val_w k hw)]
          simp only [Option.bind_some]
          rw [if_pos (show 0 ≤ (i : Int) ∧ (i : Int) < (l.length : Int) by omega), if_pos (show 0 + i * 1 < l.length by omega), show 0 + i * 1 = i by omega, hls, wi64 (by omega), show ((i + 1 : Nat) : Int) = (i : Int) + 1 by omega])
        (fun R kn ko => by
          unfold st_918_0
          dsimp only
          simp only [List.take_length, bif_dec]
          rw [if_neg (show ¬ (l.length : Int) < (l.length : Int) by omega)])
      rw [lay1_zero] at this
      unfold F_918
      dsimp only
      simp only [List.take_length, Int.toNat_natCast]
      rw [rightr_eq (r, c, f, l, ()) hl (by simp only; omega), hr, actr_k, decide_eq_true hk]
      simp only [Option.bind_some, Bool.not_true, cond_false, bif_dec]
      rw [if_pos (by omega)]
      have e : lim st_918_0 ((k, ((0 : Int), ())), ((r, (c, (f, (l, ())))), (((0:Int), ((0:Int), ((0:Int), ()))), ((r, (c, (f, (l.length, ())))), (List.replicate l.length 0, ()))))) = _ := this
      rw [e]
      simp only [Option.bind_some, List.drop_zero, lay1_all]
      rw [List.take_of_length_le (by simp)]
      rfl
    · rw [if_neg hk]
      unfold F_918
      dsimp only
      simp only [List.take_length]
      rw [rightr_eq (r, c, f, l, ()) hl (by simp only; omega), hr, actr_k, decide_eq_false hk]
      rfl
  · rw [if_neg hr]
    rw [Bool.not_eq_true] at hr
    unfold F_918
    dsimp only
    simp only [List.take_length]
    rw [rightr_eq (r, c, f, l, ()) hl (by simp only; omega), hr]
    rfl
end Go.Proofs.YtfpjkmgfkaoapaaGreat.VI

namespace Go.Proofs.YtfpjkmgfkaoapaaGreat.VI
set_option linter.unusedVariables false
set_option linter.unusedSimpArgs false
set_option maxRecDepth 100000
noncomputable def O_98 : Orc := (orm c_9c (orm c_9d (orm c_9e (orm c_911 (orm c_910 c_9f)))))
theorem okO_98 : OrcOk PR O_98 := (orm_ok ok_9c (orm_ok ok_9d (orm_ok ok_9e (orm_ok ok_911 (orm_ok ok_910 ok_9f)))))
abbrev fa_98 : Fm := (.pair (.i .u8) (.pair (.i .u8) (.pair (.i .u8) (.pair (.i .u8) (.pair (.si .u32) .unit)))))
abbrev ha_98 : List BF := []
abbrev fr_98 : Fm := .b
abbrev hr_98 : List BF := []
abbrev ff_98_0 : Fm := (.pair (.i .u8) (.us 10 (.cst (.ref 0 1 0) (.cst (.ref 1 1 0) (.us 1 (.pair (.i .i64) (.us 84 .unit)))))))
abbrev hf_98_0 : List BF := [(.list 1 y_91 true (.pair (.i .i64) (.pair (.i .i64) (.pair (.i .i64) (.pair (.si .u32) .unit))))), (.list 1 y_91 true (.pair (.i .i64) (.pair (.i .i64) (.pair (.i .i64) (.pair (.si .u32) .unit)))))]
abbrev X_98_0 : Xs := (.alt (.exit 0) [] (.us 99 .unit) [] (.one .ret [10] (.us 10 (.pair .b (.us 88 .unit))) []))
abbrev S_98_0 : Type := T ff_98_0 × TH hf_98_0
abbrev E_98_0 : Type := TX X_98_0
noncomputable def LB_98_0 : Lps := L0
noncomputable def st_98_0 : StepT S_98_0 E_98_0 := fun R v kn ko =>
 let x0 : Int := v.2.1.2.2.1
 let x1 : List Int := v.2.1.2.2.2.1
 let x2 : Int := v.1.2.1
 let x3 : Nat := (Int.toNat x2)
 let x4 : Int := v.1.1
 let x5 : List Int := v.2.2.1.2.2.2.1
 bif (decide (x2 < (((List.length x1) : Nat) : Int))) then
 bif (decide (((0:Int) ≤ x2) ∧ (x2 < (((List.length x5) : Nat) : Int)))) then
 bif (decide (((0:Int) ≤ x2) ∧ (x2 < (((List.length x1) : Nat) : Int)))) then
 ((F_911 x0 (List.getD x1 x3 (0:Int)))).bind fun r6 =>
 ((F_910 (IntKind.wrap .i64 (Int.tmod x4 (4:Int))) r6)).bind fun r7 =>
 ((F_9f x0 r7)).bind fun r8 =>
 bif ((List.getD x5 x3 (0:Int)) != r8) then
 (ko (Sum.inr ((false, ()), ())))
 else
 (kn ((x4, ((IntKind.wrap .i64 (x2 + (1:Int))), ())), ((v.2.1.1, (v.2.1.2.1, (x0, ((List.take (List.length x1) x1), ())))), ((v.2.2.1.1, (v.2.2.1.2.1, (v.2.2.1.2.2.1, ((List.take (List.length x5) x5), ())))), ()))))
 else
 none
 else
 none
 else
 (ko (Sum.inl ((), ())))
noncomputable def ls_98_0 : St → LTr := (lsum ff_98_0 hf_98_0 X_98_0 Prod.mk id st_98_0 (hd [] [] [0, 11, 12, 14] 0))
theorem lp_98_0 : LoopOk PR 0 (lpN f_98 0) ls_98_0 := loopT okO_98 mixed (L := LB_98_0) (d := 1) (bs := []) (ks := [0, 11, 12, 14]) (loopsL (l := []) (by kernel_rfl) trivial) (by kernel_rfl) (inS := Prod.mk) (outS := id) (fun _ _ => rfl) (inX := id) (outX := id) (fun _ => rfl) (fun v R kn ko => by kernel_rfl) (hd_wk [] [] [0, 11, 12, 14] 0)
noncomputable def L_98 : Lps := (lpB 11 (.by_ ls_98_0) L0)
def inn_98 : T fr_98 → TH hr_98 → Bool := (fun z w => z)
def out_98 : Bool → T fr_98 × TH hr_98 := fun r => (r, ())
noncomputable def F_98 (a0 : Int) (a1 : Int) (a2 : Int) (a3 : Int) (a4 : List Int) : Option (Bool) :=
 (F_9c).bind fun r0 =>
 bif (!r0) then
 (some false)
 else
 bif (decide ((((List.length a4) : Nat) : Int) > (30:Int))) then
 (some true)
 else
 ((F_9d (IntKind.wrap .i64 (Int.tmod a1 (5:Int))) (IntKind.wrap .i64 (Int.tmod a2 (5:Int))) (IntKind.wrap .i64 (Int.tmod a3 (3:Int))) (List.take (List.length a4) a4) true)).bind fun r1 =>
 let x2 : Int := r1.2.2.1
 let x3 : List Int := r1.2.2.2.1
 let x4 : Nat := (List.length x3)
 ((F_9e (IntKind.wrap .i64 (Int.tmod a0 (4:Int))) (r1.1, (r1.2.1, (x2, ((List.take x4 x3), ())))))).bind fun r5 =>
 let x6 : Int := r5.1.2.1
 let x7 : Int := r5.1.2.2.1
 let x8 : List Int := r5.1.2.2.2.1
 let x9 : Nat := (List.length x8)
 bif (r5.2.1 != (0:Int)) then
 (some false)
 else
 bif (r5.1.1 != r1.1) then
 (some false)
 else
 bif (x6 != r1.2.1) then
 (some false)
 else
 bif (x7 != x2) then
 (some false)
 else
 bif (((x9 : Nat) : Int) != ((x4 : Nat) : Int)) then
 (some false)
 else
 ((lim st_98_0 ((a0, ((0:Int), ())), ((r1.1, (r1.2.1, (x2, ((List.take x4 x3), ())))), ((r5.1.1, (x6, (x7, ((List.take x9 x8), ())))), ()))))).bind fun r10 =>
 els (fun l11 =>
 (some true)) (fun r12 =>
 (some r12.1.1)) r10
noncomputable def G_98 : T fa_98 → TH ha_98 → Option (Bool) := fun x y => F_98 x.1 x.2.1 x.2.2.1 x.2.2.2.1 x.2.2.2.2.1
noncomputable def c_98 : Orc := ent i_98 [] 0 (sp fa_98 ha_98 fr_98 hr_98 G_98 out_98)
theorem ok_98 : OrcOk PR c_98 := fnT okO_98 mixed p_98 (by kernel_rfl) (by kernel_rfl) (L := L_98) (kp := false) (by kernel_rfl) (inn := inn_98) (out := out_98) (fun _ _ => rfl) (loopsL (l := [((lpN f_98 0), ls_98_0)]) (by kernel_rfl) ⟨lp_98_0, trivial⟩) (fun x y => by kernel_rfl)
end Go.Proofs.YtfpjkmgfkaoapaaGreat.VI

namespace Go.Proofs.YtfpjkmgfkaoapaaGreat.VI
set_option linter.unusedVariables false
set_option linter.unusedSimpArgs false
set_option maxRecDepth 100000
set_option maxHeartbeats 8000000
set_option exponentiation.threshold 2000
theorem widenr_eq (f : Int) {a : Int} (h : w32 a) : F_911 f a = some (widen f a) := by
  unfold F_911
  rw [tor_eq f 2 0 h]; rfl
theorem actShapes {k m n f : Int} (l : List Int) (hk : 0 ≤ k) (hm : 0 ≤ m) (hn : 0 ≤ n) (hf : 0 ≤ f) : F_98 k m n f l = some true := by
  unfold F_98
  rw [known15]
  simp only [Option.bind_some, Bool.not_true, cond_false, bif_dec, List.take_length]
  by_cases ll : (((l.length : Nat) : Int) > 30)
  · rw [if_pos ll]
  rw [if_neg ll]
  obtain ⟨M, eM, hM⟩ := tmod5 hm
  obtain ⟨N, eN, hN⟩ := tmod5 hn
  have eK : IntKind.wrap .i64 (Int.tmod k 4) = k % 4 := by rw [tmod_nn hk, wi64 (by omega)]
  have eF : IntKind.wrap .i64 (Int.tmod f 3) = f % 3 := by rw [tmod_nn hf, wi64 (by omega)]
  rw [eM, eN, eK, eF]
  obtain ⟨V, h1, l1, w1, _⟩ := seatT M N (f % 3) l true (by omega) (by omega) (by omega)
  have b1 := rc_bd (show M ≤ 4096 by omega) (show N ≤ 4096 by omega)
  have W := wf_wl w1
  have hr : rightS ((M : Int), (N : Int), f % 3, V, ()) = true := wf_right (by omega) (by omega) l1 (by unfold knownS; exact decide_eq_true (by omega)) w1
  rw [h1]
  simp only [Option.bind_some, List.take_length]
  rw [fwd_all ((M : Int), (N : Int), f % 3, V, ()) (k % 4) W (by simp only; omega)]
  unfold fwdT
  rw [hr, if_pos rfl, if_pos (by omega)]
  simp only [Option.bind_some, bif_ne, if_true]
  have lF : (fwdL (k % 4) ((M : Int), (N : Int), f % 3, V, ())).length = V.length := by unfold fwdL; simp
  rw [lF]
  simp only [if_true]
  have hg : ∀ i, i < V.length → (fwdL (k % 4) ((M : Int), (N : Int), f % 3, V, ())).getD i 0 = narrow (f % 3) (valS (k % 4) (widen (f % 3) (V.getD i 0))) := by
    intro i hi
    unfold fwdL
    exact gl_mapA (h := fun i => narrow (f % 3) (valS (k % 4) (widen (f % 3) (V.getD i 0)))) hi
  generalize fwdL (k % 4) ((M : Int), (N : Int), f % 3, V, ()) = X at *
  have := lim_seq (st := st_98_0) (fun i => ((k, ((i : Int), ())), (((M : Int), ((N : Int), (f % 3, (V, ())))), (((M : Int), ((N : Int), (f % 3, (X, ())))), ()))))
    (b := Sum.inl ((), ())) V.length
    (fun i hi R kn ko => by
      have w2 := widen_w (f % 3) (V.getD i 0)
      unfold st_98_0
      dsimp only
      simp only [List.take_length, bif_dec, Int.toNat_natCast]
      rw [if_pos (show (i : Int) < (V.length : Int) by omega), if_pos (show 0 ≤ (i : Int) ∧ (i : Int) < (X.length : Int) by omega), if_pos (show 0 ≤ (i : Int) ∧ (i : Int) < (V.length : Int) by omega), widenr_eq (f % 3) (wl_get W i), eK]
      simp only [Option.bind_some]
      rw [val_eq _ w2]
      simp only [Option.bind_some]
      rw [narrowr_eq _ (val_w _ w2)]
      simp only [Option.bind_some]
      rw [bif_ne, if_pos (hg i hi), wi64 (by omega), show ((i + 1 : Nat) : Int) = (i : Int) + 1 by omega])
    (fun R kn ko => by
      unfold st_98_0
      dsimp only
      simp only [List.take_length, bif_dec]
      rw [if_neg (show ¬ (V.length : Int) < (V.length : Int) by omega)])
  have e : lim st_98_0 ((k, ((0 : Int), ())), (((M : Int), ((N : Int), (f % 3, (V, ())))), (((M : Int), ((N : Int), (f % 3, (X, ())))), ()))) = _ := this
  rw [e]
  rfl
theorem callActShapes : ∀ l, args [.i .u8, .i .u8, .i .u8, .i .u8, .ints .u32] l → oks l → CallOk PR i_98 l [] fun r _ => r = .b true :=
  rowT (fa := fa_98) (F := G_98) rfl rfl ok_98 (enters p_98 (by kernel_rfl) (by kernel_rfl)) rfl fun x hx =>
    actShapes _ hx.1.1 hx.2.1.1 hx.2.2.1.1 hx.2.2.2.1.1
end Go.Proofs.YtfpjkmgfkaoapaaGreat.VI

namespace Go.Proofs.YtfpjkmgfkaoapaaGreat.VI
set_option linter.unusedVariables false
set_option linter.unusedSimpArgs false
open Go.ChangeShapes Go.WideShapes Go.RowKit Go.WideElems YtfpjkmgfkaoapaaGreat
set_option maxRecDepth 100000
theorem laid : laidOutB Tryz.prog = true := by kernel_rfl
theorem own : ownKnob Tryz.prog.godebug = none := by kernel_rfl
theorem lifted (os : Os) (started : os.Started) (H : Type) (enc : TypeId × Value → H) :
    ReturnsInHanded {} Tryz.checked os 3 .any (Rows.actShapesSpec.pre6 enc Tryz.prog Tryz.f3 Rows.actShapesRow.domain false) (Rows.actShapesSpec.post enc Tryz.prog Tryz.f3 false true false false) :=
  lift_args (C := Tryz.checked) own started (by kernel_rfl) Tryz.func3
    (ChangeSpec.witness6 (enc := enc) (C := Tryz.checked) false ⟨#[], #[.int .u8 0, .int .u8 0, .int .u8 0, .int .u8 0, .slice none 0 0], []⟩ 8 (by kernel_rfl) (by kernel_rfl) (by kernel_rfl) (by kernel_rfl))
    laid Tryz.underlying4 rfl (by kernel_rfl) rfl (fun ds hd => match ds, hd with
    | [_, _, _, _, _], _ => rfl) (d := 6) (by kernel_rfl) (Fs := [.i .u8, .i .u8, .i .u8, .i .u8, .ints .u32]) (by kernel_rfl) callActShapes
theorem over : Rows.actShapesRow.holds Tryz.pinned (OpenSpec.ofChange Rows.actShapesSpec) :=
  OpenClaim.holds_of_wide 3 Tryz.f3 rfl rfl rfl rfl rfl rfl rfl ⟨rfl, rfl, rfl, rfl, rfl⟩ rfl rfl rfl rfl rfl (by kernel_rfl) Tryz.func3 (by kernel_rfl)
    (of_decide_eq_true (by kernel_rfl)) (by unfold Func.isWrapper; first | (rw [if_pos (by decide +kernel)]; kernel_rfl) | (rw [if_neg (by decide +kernel)]; exact ⟨rfl, rfl⟩))
    (fun os started H enc _ => lifted os started H enc)
end Go.Proofs.YtfpjkmgfkaoapaaGreat.VI
