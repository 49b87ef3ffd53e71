import Derived.Test.YtfpjkmgfkaoapaaGreatTee148449
import Derived.Test.YtfpjkmgfkaoapaaGreatRows
import Derived.WalkKit
import Derived.ProofKit
namespace Go.Proofs.YtfpjkmgfkaoapaaGreat.VI
set_option linter.unusedVariables false
set_option linter.unusedSimpArgs false
set_option maxRecDepth 100000
set_option maxHeartbeats 4000000
def mildP (f v : Int) : Prop := nan f v = false ∧ inff f v = false ∧ (v % TT f = 0 → v = 0)
theorem mild_p {k : Int} (f : Int) (h : w32 k) : ∃ v, F_914 f k = some v ∧ wf f v ∧ mildP f v := by
  have fb := fmt_bd f
  unfold F_914
  rw [bif_eq]
  by_cases h0 : Int.tmod k 7 = 0
  · rw [if_pos h0]; refine ⟨0, rfl, ⟨by omega, by omega⟩, ?_⟩
    have ib := IN_bd f
    refine ⟨?_, ?_, fun _ => rfl⟩
    · unfold nan; rw [Int.zero_emod]; exact decide_eq_false (by omega)
    · unfold inff; rw [Int.zero_emod]; exact decide_eq_false (by omega)
  rw [if_neg h0, zeror_w, ← widr_nf f]
  have key : ∀ (x : Int), 0 < x → x < IN f → (x % (TT f) = x ∧ (TT f + x) % TT f = x) := by
    intro x h1 h2
    have ib := IN_bd f
    refine ⟨Int.emod_eq_of_lt (by omega) (by omega), ?_⟩
    rw [Int.add_comm, Int.add_emod_right]; exact Int.emod_eq_of_lt (by omega) (by omega)
  have fin : ∀ (x : Int), 0 < x → x < IN f → ∃ v, (bif (bits .and .u32 k 1 == 1) then some (bits .or .u32 x (sgn f true)) else some x) = some v ∧ wf f v ∧ mildP f v := by
    intro x h1 h2
    have ib := IN_bd f
    have kx := key x h1 h2
    cases bits .and .u32 k 1 == 1
    · refine ⟨x, rfl, ⟨by omega, by omega⟩, ?_, ?_, ?_⟩
      · unfold nan; rw [kx.1]; simp; omega
      · unfold inff; rw [kx.1]; simp; omega
      · rw [kx.1]; intro q; exact q
    · have e : bits .or .u32 x (sgn f true) = TT f + x := by
        rw [or_comm32, sgn_or f true ⟨by omega, by omega⟩]; unfold sgn; simp
      refine ⟨TT f + x, by rw [e]; rfl, ⟨by omega, by omega⟩, ?_, ?_, ?_⟩
      · unfold nan; rw [kx.2]; simp; omega
      · unfold inff; rw [kx.2]; simp; omega
      · rw [kx.2]; intro q; omega
  have hd : Int.tmod (k / 8) 4096 = k / 8 % 4096 ∧ Int.tmod (k / 8) 512 = k / 8 % 512 ∧ Int.tmod (k / 8) 33554432 = k / 8 % 33554432 := by
    have : 0 ≤ k / 8 := by have := h.1; omega
    exact ⟨tmod_nn this, tmod_nn this, tmod_nn this⟩
  have hI : IN f = (RR f - 1) * BB f := rfl
  rw [← nf_RR f, ← nf_BB f] at hI
  rcases nf_cases f with e | e | e <;> rw [e] at hI ⊢
  · have hI2 : IN f = 31744 := hI
    have := fin (IntKind.wrap .u32 (13312 + Int.tmod (k / 8) 4096)) (by rw [hd.1, wu32 (by omega)]; omega) (by rw [hd.1, wu32 (by omega)]; omega)
    exact this
  · have hI2 : IN f = 32640 := hI
    have := fin (IntKind.wrap .u32 (16000 + Int.tmod (k / 8) 512)) (by rw [hd.2.1, wu32 (by omega)]; omega) (by rw [hd.2.1, wu32 (by omega)]; omega)
    exact this
  · have hI2 : IN f = 2139095040 := hI
    have := fin (IntKind.wrap .u32 (1048576000 + Int.tmod (k / 8) 33554432)) (by rw [hd.2.2, wu32 (by omega)]; omega) (by rw [hd.2.2, wu32 (by omega)]; omega)
    exact this
theorem num_wf (f : Int) {k : Int} (h : w32 k) : ∃ v, F_913 f k = some v ∧ wf f v := by
  unfold F_913
  rw [maskr_eq, zeror_w, ← widr_nf f]
  have h15 : (0:Int) ≤ Int.tmod k 15 ∧ Int.tmod k 15 < 15 := by rw [tmod_nn h.1]; omega
  have o : ∀ y, wf f (bits .or .u32 (bits .and .u32 y (2 * TT f - 1)) (sgn f true)) := fun y => by
    have := or_top_bd f y
    unfold sgn; exact this
  rcases nf_cases f with e | e | e <;> rw [e]
  all_goals
    show ∃ v, (bif decide ((0:Int) ≤ Int.tmod k 15 ∧ Int.tmod k 15 < 15) then (bif decide ((0:Nat) + (Int.toNat (Int.tmod k 15)) * 1 < 15) then (bif (k / 2147483648 == 1) then some (bits .or .u32 (bits .and .u32 _ (2 * TT f - 1)) (sgn f true)) else some (bits .and .u32 _ (2 * TT f - 1))) else none) else none) = some v ∧ wf f v
    rw [bif_dec, if_pos h15, bif_dec, if_pos (by omega)]
    cases k / 2147483648 == 1
    · exact ⟨_, rfl, and_mask_bd f _⟩
    · exact ⟨_, rfl, o _⟩
theorem wrap_w (n : Int) : w32 (IntKind.wrap .u32 n) := by rw [wu32_eq]; exact ⟨by omega, by omega⟩
theorem seatT (R C : Nat) (f : Int) (l : List Int) (m : Bool) (hR : R ≤ 4096) (hC : C ≤ 4096) (hl : l.length < 4611686018427387904) :
    ∃ V, F_9d (R : Int) (C : Int) f l m = some ((R : Int), (C : Int), f, V, ()) ∧ V.length = R * C ∧ (∀ v ∈ V, wf f v) ∧ (m = true → ∀ v ∈ V, mildP f v) := by
  have hb := rc_bd hR hC
  have hRC : ((R : Int) * (C : Int)) = ((R * C : Nat) : Int) := by simp
  obtain ⟨r, hr, V, hr2, lV, wV, mV⟩ := lim_post (st := st_9d_0)
    (fun v => ∃ (i : Nat) (V : List Int), v = (((R : Int), ((C : Int), (f, (l, (m, ((i : Int), ())))))), (((0:Int), ((0:Int), ((0:Int), ()))), (((R : Int), ((C : Int), (f, ((i : Nat), ())))), (V, ())))) ∧ i ≤ R * C ∧ V.length = i ∧ (∀ v ∈ V, wf f v) ∧ (m = true → ∀ v ∈ V, mildP f v))
    (fun v => R * C + 1 - v.2.2.1.2.2.2.1)
    (fun r => ∃ (V : List Int), r = ((), (((0:Int), ((0:Int), ((0:Int), ()))), (((R : Int), ((C : Int), (f, ((R * C : Nat), ())))), (V, ())))) ∧ V.length = R * C ∧ (∀ v ∈ V, wf f v) ∧ (m = true → ∀ v ∈ V, mildP f v))
    (fun v hv => by
      obtain ⟨i, V, rfl, h1, h2, h3, h4⟩ := hv
      by_cases hi : i < R * C
      · left
        have h30 : i + 1 ≤ 1073741824 := by omega
        have stp : ∃ v, (∀ R' kn ko, st_9d_0 R' (((R : Int), ((C : Int), (f, (l, (m, ((i : Int), ())))))), (((0:Int), ((0:Int), ((0:Int), ()))), (((R : Int), ((C : Int), (f, ((i : Nat), ())))), (V, ())))) kn ko = kn (((R : Int), ((C : Int), (f, (l, (m, (((i + 1 : Nat) : Int), ())))))), (((0:Int), ((0:Int), ((0:Int), ()))), (((R : Int), ((C : Int), (f, ((i + 1 : Nat), ())))), (V ++ [v], ()))))) ∧ wf f v ∧ (m = true → mildP f v) := by
          by_cases hl0 : ((l.length : Nat) : Int) > 0
          · have ht : 0 ≤ Int.tmod (i : Int) ((l.length : Nat) : Int) ∧ Int.tmod (i : Int) ((l.length : Nat) : Int) < ((l.length : Nat) : Int) := by
              rw [tmod_nn (by omega)]; exact ⟨Int.emod_nonneg _ (by omega), Int.emod_lt_of_pos _ hl0⟩
            have hz : (((l.length : Nat) : Int) == 0) = false := beq_false_of_ne (by omega)
            cases m
            · obtain ⟨v, hv, hw⟩ := num_wf f  (k := (IntKind.wrap .u32 ((List.getD l (Int.toNat (Int.tmod (i : Int) ((l.length : Nat) : Int))) (0:Int)) + (IntKind.wrap .u32 ((IntKind.wrap .u32 (IntKind.wrap .i64 (Int.tdiv (i : Int) ((l.length : Nat) : Int)))) * (40503:Int)))))) (wrap_w _)
              refine ⟨v, fun R' kn ko => ?_, hw, fun h => by cases h⟩
              unfold st_9d_0
              dsimp only
              simp only [List.take_length, bif_dec, hz, hRC]
              rw [wi64 (n := ((R * C : Nat) : Int)) (by omega), if_pos (show (i : Int) < ((R * C : Nat) : Int) by omega), if_pos hl0, cond_false, if_pos ht, cond_false, cond_false, hv, wi64 (n := (i : Int) + 1) (by omega), show ((i + 1 : Nat) : Int) = (i : Int) + 1 by omega]
              rw [List.take_of_length_le (show V.length ≤ i by omega)]
              simp only [Option.bind_some]
              rw [if_pos h30]
            · obtain ⟨v, hv, hw, hm⟩ := mild_p f  (k := (IntKind.wrap .u32 ((List.getD l (Int.toNat (Int.tmod (i : Int) ((l.length : Nat) : Int))) (0:Int)) + (IntKind.wrap .u32 ((IntKind.wrap .u32 (IntKind.wrap .i64 (Int.tdiv (i : Int) ((l.length : Nat) : Int)))) * (40503:Int)))))) (wrap_w _)
              refine ⟨v, fun R' kn ko => ?_, hw, fun _ => hm⟩
              unfold st_9d_0
              dsimp only
              simp only [List.take_length, bif_dec, hz, hRC]
              rw [wi64 (n := ((R * C : Nat) : Int)) (by omega), if_pos (show (i : Int) < ((R * C : Nat) : Int) by omega), if_pos hl0, cond_false, if_pos ht, cond_false, cond_true, hv, wi64 (n := (i : Int) + 1) (by omega), show ((i + 1 : Nat) : Int) = (i : Int) + 1 by omega]
              rw [List.take_of_length_le (show V.length ≤ i by omega)]
              simp only [Option.bind_some]
              rw [if_pos h30]
          · cases m
            · obtain ⟨v, hv, hw⟩ := num_wf f  (k := (IntKind.wrap .u32 ((IntKind.wrap .u32 (i : Int)) * (2654435761:Int)))) (wrap_w _)
              refine ⟨v, fun R' kn ko => ?_, hw, fun h => by cases h⟩
              unfold st_9d_0
              dsimp only
              simp only [List.take_length, bif_dec, hRC]
              rw [wi64 (n := ((R * C : Nat) : Int)) (by omega), if_pos (show (i : Int) < ((R * C : Nat) : Int) by omega), if_neg hl0, cond_false, hv, wi64 (n := (i : Int) + 1) (by omega), show ((i + 1 : Nat) : Int) = (i : Int) + 1 by omega]
              rw [List.take_of_length_le (show V.length ≤ i by omega)]
              simp only [Option.bind_some]
              rw [if_pos h30]
            · obtain ⟨v, hv, hw, hm⟩ := mild_p f  (k := (IntKind.wrap .u32 ((IntKind.wrap .u32 (i : Int)) * (2654435761:Int)))) (wrap_w _)
              refine ⟨v, fun R' kn ko => ?_, hw, fun _ => hm⟩
              unfold st_9d_0
              dsimp only
              simp only [List.take_length, bif_dec, hRC]
              rw [wi64 (n := ((R * C : Nat) : Int)) (by omega), if_pos (show (i : Int) < ((R * C : Nat) : Int) by omega), if_neg hl0, cond_true, hv, wi64 (n := (i : Int) + 1) (by omega), show ((i + 1 : Nat) : Int) = (i : Int) + 1 by omega]
              rw [List.take_of_length_le (show V.length ≤ i by omega)]
              simp only [Option.bind_some]
              rw [if_pos h30]
        obtain ⟨v, hs, hw, hm⟩ := stp
        refine ⟨_, hs, ⟨i + 1, V ++ [v], rfl, by omega, by simp [h2], ?_, ?_⟩, by simp only; omega⟩
        · intro c hc; rcases List.mem_append.1 hc with q | q
          · exact h3 c q
          · simp at q; rw [q]; exact hw
        · intro hmt c hc; rcases List.mem_append.1 hc with q | q
          · exact h4 hmt c q
          · simp at q; rw [q]; exact hm hmt
      · right
        have e : i = R * C := by omega
        subst e
        refine ⟨_, fun R' kn ko => ?_, ⟨V, rfl, h2, h3, h4⟩⟩
        unfold st_9d_0
        dsimp only
        simp only [List.take_length, bif_dec, hRC]
        rw [wi64 (n := ((R * C : Nat) : Int)) (by omega), if_neg (show ¬ ((R * C : Nat) : Int) < ((R * C : Nat) : Int) by omega)])
    (((R : Int), ((C : Int), (f, (l, (m, ((0:Int), ())))))), (((0:Int), ((0:Int), ((0:Int), ()))), (((R : Int), ((C : Int), (f, ((0:Nat), ())))), ([], ()))))
    ⟨0, [], rfl, by omega, rfl, fun c hc => absurd hc (by simp), fun _ c hc => absurd hc (by simp)⟩
  refine ⟨V, ?_, lV, wV, mV⟩
  unfold F_9d
  rw [List.take_length, hr, hr2]
  simp only [Option.bind_some, List.drop_zero]
  rw [List.take_of_length_le (by omega)]
theorem wf_wl {f : Int} {V : List Int} (h : ∀ v ∈ V, wf f v) : wl V := fun a ha => wf_w (h a ha)
theorem wf_right {R C : Nat} {f : Int} {V : List Int} (hR : R ≤ 4096) (hC : C ≤ 4096) (hl : V.length = R * C) (hf : knownS f = true) (h : ∀ v ∈ V, wf f v) : rightS ((R : Int), (C : Int), f, V, ()) = true :=
  right_mk hR hC hl hf (List.all_eq_true.2 fun a ha => decide_eq_true (h a ha).2)
end Go.Proofs.YtfpjkmgfkaoapaaGreat.VI

namespace Go.Proofs.YtfpjkmgfkaoapaaGreat.VI
set_option linter.unusedVariables false
set_option linter.unusedSimpArgs false
set_option maxRecDepth 100000
set_option maxHeartbeats 8000000
theorem wider_eq (t : TsT) {i : Nat} (hl : wl t.2.2.2.1) (hi : i < t.2.2.2.1.length) : F_93f t (i : Int) = some (gl (wideL t) i) := by
  obtain ⟨r, c, f, l, ⟨⟩⟩ := t
  simp only at hl hi
  unfold F_93f F_911
  dsimp only
  rw [bif_dec, if_pos (by omega), Int.toNat_natCast, tor_eq f 2 0 (wl_get hl i)]
  simp only [Option.bind_some]
  unfold wideL
  have : gl ((List.range l.length).map fun i => widen f (l.getD i 0)) i = widen f (l.getD i 0) := by
    unfold gl; rw [List.getD_eq_getElem?_getD, List.getElem?_map, List.getElem?_range hi]; rfl
  rw [this]; rfl
def tk (a : TsT) : TsT := (a.1, (a.2.1, (a.2.2.1, ((List.take (List.length a.2.2.2.1) a.2.2.2.1), ()))))
theorem tk_id (a : TsT) : tk a = a := by unfold tk; rw [List.take_length]
theorem light_len {a : TsT} (h : F_912 a = some true) : a.2.2.2.1.length ≤ 60 := by
  unfold F_912 at h
  rw [bif_dec] at h
  by_cases k : ((List.length a.2.2.2.1 : Nat) : Int) ≤ 60
  · omega
  · rw [if_neg k] at h; cases h
theorem light_some (a : TsT) : ∃ b, F_912 a = some b := by
  unfold F_912
  simp only [bif_dec]
  (repeat' split) <;> exact ⟨_, rfl⟩
theorem tmod5 {a : Int} (h : 0 ≤ a) : ∃ n : Nat, IntKind.wrap .i64 (Int.tmod a 5) = n ∧ n ≤ 4 := by
  refine ⟨(a % 5).toNat, ?_, by omega⟩
  rw [tmod_nn h, wi64 (by omega)]; omega
end Go.Proofs.YtfpjkmgfkaoapaaGreat.VI

namespace Go.Proofs.YtfpjkmgfkaoapaaGreat.VI
set_option linter.unusedVariables false
set_option linter.unusedSimpArgs false
set_option maxRecDepth 100000
set_option maxHeartbeats 4000000
theorem narrowr_eq (f : Int) {a : Int} (ha : w32 a) : F_9f f a = some (narrow f a) := by
  unfold F_9f narrow; rw [tor_eq 2 f 0 ha]; rfl
theorem gl_mapA {h : Nat → Int} {n i : Nat} (hi : i < n) : gl ((List.range n).map h) i = h i := by
  unfold gl; rw [List.getD_eq_getElem?_getD]; simp [hi]
theorem wideL_get (t : TsT) {i : Nat} (h : i < t.2.2.2.1.length) : gl (wideL t) i = widen t.2.2.1 (t.2.2.2.1.getD i 0) := by
  unfold wideL; rw [gl_mapA h]
theorem act_k (k : Int) : F_928 k = some (decide (0 ≤ k ∧ k ≤ 3)) := by
  unfold F_928
  simp only [bif_dec]
  by_cases h : 0 ≤ k <;> simp [h]
theorem actr_k (k : Int) : F_93e k = some (decide (0 ≤ k ∧ k ≤ 3)) := act_k k
def fwdL (k : Int) (t : TsT) : List Int := (List.range t.2.2.2.1.length).map (fun i => narrow t.2.2.1 (valS k (widen t.2.2.1 (t.2.2.2.1.getD i 0))))
def fwdT (k : Int) (t : TsT) : TsT × Int × Unit := if rightS t then (if 0 ≤ k ∧ k ≤ 3 then ((t.1, t.2.1, t.2.2.1, fwdL k t, ()), 0, ()) else (noT, 22, ())) else (noT, 21, ())
theorem fwd_all (t : TsT) (k : Int) (hl : wl t.2.2.2.1) (hn : t.2.2.2.1.length ≤ 1073741824) : F_9e k t = some (fwdT k t) := by
  unfold fwdT
  by_cases hr : rightS t = true
  · rw [if_pos hr]
    by_cases hk : 0 ≤ k ∧ k ≤ 3
    · rw [if_pos hk, fwd_eq t k (valS k) (fun x hx => ⟨val_eq k hx, val_w k hx⟩) hl hn hk hr]; rfl
    · rw [if_neg hk]
      obtain ⟨r, c, f, l, ⟨⟩⟩ := t
      simp only at hl hn
      unfold F_9e
      dsimp only
      simp only [List.take_length]
      have e0 : List.getD [k] 0 0 = k := rfl
      rw [right_eq (r, c, f, l, ()) hl (by simp only; omega), hr, e0, act_k]
      simp only [Option.bind_some, Bool.not_true, cond_false]
      rw [decide_eq_false hk]; rfl
  · rw [if_neg hr]
    rw [Bool.not_eq_true] at hr
    obtain ⟨r, c, f, l, ⟨⟩⟩ := t
    simp only at hl hn
    unfold F_9e
    dsimp only
    simp only [List.take_length]
    rw [right_eq (r, c, f, l, ()) hl (by simp only; omega), hr]
    rfl
theorem fwdr_all (t : TsT) (k : Int) (hl : wl t.2.2.2.1) (hn : t.2.2.2.1.length ≤ 1073741824) : F_918 k t = some (fwdT k t) := by
  unfold fwdT
  obtain ⟨r, c, f, l, ⟨⟩⟩ := t
  simp only at hl hn
  by_cases hr : rightS (r, c, f, l, ()) = true
  · rw [if_pos hr]
    by_cases hk : 0 ≤ k ∧ k ≤ 3
    · rw [if_pos hk]
      have := lim_seq (st := st_918_0) (fun i => ((k, ((i : Int), ())), ((r, (c, (f, (l, ())))), (((0:Int), ((0:Int), ((0:Int), ()))), ((r, (c, (f, (l.length, ())))), (lay1 (fun i => narrow f (valS k (widen f (l.getD i 0)))) l.length i, ()))))))
        (b := ((), (((0:Int), ((0:Int), ((0:Int), ()))), ((r, (c, (f, (l.length, ())))), (lay1 (fun i => narrow f (valS k (widen f (l.getD i 0)))) l.length l.length, ()))))) l.length
        (fun i hi R kn ko => by
          have hll := lay1_len (fun i => narrow f (valS k (widen f (l.getD i 0)))) (Nat.le_of_lt hi)
          have hls := lay1_set (fun i => narrow f (valS k (widen f (l.getD i 0)))) hi
          have e1 := wider_eq (r, c, f, l, ()) (i := i) hl hi
          rw [wideL_get (r, c, f, l, ()) hi] at e1
          have hw := widen_w f (l.getD i 0)
          unfold st_918_0
          dsimp only at hls e1 ⊢
          simp only [List.take_length, bif_dec, hll, Int.toNat_natCast]
          rw [if_pos (show (i : Int) < (l.length : Int) by omega)]
          rw [show F_93f (r, (c, (f, (l, ())))) (i : Int) = _ from e1]
          simp only [Option.bind_some]
          rw [valr_eq k hw]
          simp only [Option.bind_some]
          rw [narrowr_eq f (val_w k hw)]
          simp only [Option.bind_some]
          rw [if_pos (show 0 ≤ (i : Int) ∧ (i : Int) < (l.length : Int) by omega), if_pos (show 0 + i * 1 < l.length by omega), show 0 + i * 1 = i by omega, hls, wi64 (by omega), show ((i + 1 : Nat) : Int) = (i : Int) + 1 by omega])
        (fun R kn ko => by
          unfold st_918_0
          dsimp only
          simp only [List.take_length, bif_dec]
          rw [if_neg (show ¬ (l.length : Int) < (l.length : Int) by omega)])
      rw [lay1_zero] at this
      unfold F_918
      dsimp only
      simp only [List.take_length, Int.toNat_natCast]
      rw [rightr_eq (r, c, f, l, ()) hl (by simp only; omega), hr, actr_k, decide_eq_true hk]
      simp only [Option.bind_some, Bool.not_true, cond_false, bif_dec]
      rw [if_pos (by omega)]
      have e : lim st_918_0 ((k, ((0 : Int), ())), ((r, (c, (f, (l, ())))), (((0:Int), ((0:Int), ((0:Int), ()))), ((r, (c, (f, (l.length, ())))), (List.replicate l.length 0, ()))))) = _ := this
      rw [e]
      simp only [Option.bind_some, List.drop_zero, lay1_all]
      rw [List.take_of_length_le (by simp)]
      rfl
    · rw [if_neg hk]
      unfold F_918
      dsimp only
      simp only [List.take_length]
      rw [rightr_eq (r, c, f, l, ()) hl (by simp only; omega), hr, actr_k, decide_eq_false hk]
      rfl
  · rw [if_neg hr]
    rw [Bool.not_eq_true] at hr
    unfold F_918
    dsimp only
    simp only [List.take_length]
    rw [rightr_eq (r, c, f, l, ()) hl (by simp only; omega), hr]
    rfl
end Go.Proofs.YtfpjkmgfkaoapaaGreat.VI

namespace Go.Proofs.YtfpjkmgfkaoapaaGreat.VI
set_option linter.unusedVariables false
set_option linter.unusedSimpArgs false
set_option maxRecDepth 100000
set_option maxHeartbeats 4000000
def bkH (k f g : Int) (l m : List Int) (i : Nat) : Int := narrow g (mulf (widen g (m.getD i 0)) (sloV k (widen f (l.getD i 0))))
def bckT (k : Int) (t u : TsT) : TsT × Int × Unit :=
  if rightS t && rightS u && (decide (t.1 = u.1) && decide (t.2.1 = u.2.1)) then (if 0 ≤ k ∧ k ≤ 3 then ((u.1, u.2.1, u.2.2.1, (List.range u.2.2.2.1.length).map (bkH k t.2.2.1 u.2.2.1 t.2.2.2.1 u.2.2.2.1), ()), 0, ()) else (noT, 22, ())) else (noT, 21, ())
theorem eachK_eq (t d z : TsT) (g k : Int) (hl : wl t.2.2.2.1) (hn : t.2.2.2.1.length ≤ 1073741824) (hz : wl z.2.2.2.1) (hc : t.2.2.2.1.length ≤ z.2.2.2.1.length) :
    F_9b9 t g d [k] z = some ((t.1, t.2.1, g, (List.range t.2.2.2.1.length).map (fun i => narrow d.2.2.1 (mulf (widen d.2.2.1 (t.2.2.2.1.getD i 0)) (sloV k (widen z.2.2.1 (z.2.2.2.1.getD i 0))))), ()), (d, ([k], (z, ())))) := by
  obtain ⟨r, c, f, l, ⟨⟩⟩ := t
  obtain ⟨b1, b2, b3, b4, ⟨⟩⟩ := d
  obtain ⟨d1, d2, d3, d4, ⟨⟩⟩ := z
  simp only at hl hn hz hc ⊢
  have := lim_seq (st := st_9b9_0) (fun i => ((l, ((l.length : Int), ((i : Int), ()))), ((b1, (b2, (b3, (b4, ())))), ([k], ((d1, (d2, (d3, (d4, ())))), (((0:Int), ((0:Int), ((0:Int), ()))), ((r, (c, (g, (l.length, ())))), (lay1 (fun i => narrow b3 (mulf (widen b3 (l.getD i 0)) (sloV k (widen d3 (d4.getD i 0))))) l.length i, ()))))))))
    (b := ((), ((b1, (b2, (b3, (b4, ())))), ([k], ((d1, (d2, (d3, (d4, ())))), (((0:Int), ((0:Int), ((0:Int), ()))), ((r, (c, (g, (l.length, ())))), (lay1 (fun i => narrow b3 (mulf (widen b3 (l.getD i 0)) (sloV k (widen d3 (d4.getD i 0))))) l.length l.length, ())))))))) l.length
    (fun i hi R kn ko => by
      have hll := lay1_len (fun i => narrow b3 (mulf (widen b3 (l.getD i 0)) (sloV k (widen d3 (d4.getD i 0))))) (Nat.le_of_lt hi)
      have hls := lay1_set (fun i => narrow b3 (mulf (widen b3 (l.getD i 0)) (sloV k (widen d3 (d4.getD i 0))))) hi
      have w1 := widen_w b3 (l.getD i 0)
      have w2 := widen_w d3 (d4.getD i 0)
      have w3 := sloV_w k w2
      unfold st_9b9_0 F_940
      dsimp only at hls ⊢
      simp only [List.take_length, bif_dec, hll, Int.toNat_natCast]
      rw [if_pos (show (i : Int) < (l.length : Int) by omega), if_pos (show 0 ≤ (i : Int) ∧ (i : Int) < (l.length : Int) by omega), widen_eq b3 (wl_get hl i)]
      simp only [Option.bind_some]
      rw [if_pos (show 0 < [k].length by simp), if_pos (show 0 ≤ (i : Int) ∧ (i : Int) < (d4.length : Int) by omega)]
      rw [widen_eq d3 (wl_get hz i)]
      simp only [Option.bind_some]
      have e0 : List.getD [k] 0 0 = k := rfl
      first | rw [e0] | skip
      rw [slo_eq k w2]
      simp only [Option.bind_some]
      rw [fmul_eq w1 w3]
      simp only [Option.bind_some]
      rw [narrow_eq b3 (mulf_w _ _)]
      simp only [Option.bind_some]
      rw [if_pos (show (0 : Int) ≤ (i : Int) ∧ (i : Int) < (l.length : Int) by omega), if_pos (show 0 + i * 1 < l.length by omega), show 0 + i * 1 = i by omega, hls, wi64 (by omega), show ((i + 1 : Nat) : Int) = (i : Int) + 1 by omega])
    (fun R kn ko => by
      unfold st_9b9_0
      dsimp only
      simp only [List.take_length, bif_dec]
      rw [if_neg (by omega)])
  rw [lay1_zero] at this
  unfold F_9b9
  dsimp only
  simp only [List.take_length, bif_dec, Int.toNat_natCast]
  rw [if_pos (by omega)]
  have e : lim st_9b9_0 ((l, ((l.length : Int), ((0 : Int), ()))), ((b1, (b2, (b3, (b4, ())))), ([k], ((d1, (d2, (d3, (d4, ())))), (((0:Int), ((0:Int), ((0:Int), ()))), ((r, (c, (g, (l.length, ())))), (List.replicate l.length 0, ()))))))) = _ := this
  rw [e]
  simp only [Option.bind_some, List.take_length, List.drop_zero, lay1_all]
  rw [List.take_of_length_le (by simp)]
theorem right_len {t : TsT} (h : rightS t = true) : (t.2.2.2.1.length : Int) = t.1 * t.2.1 := by
  unfold rightS at h
  simp only [Bool.and_eq_true, decide_eq_true_eq] at h
  exact h.2.2.1
theorem bck_all (t u : TsT) (k : Int) (hl : wl t.2.2.2.1) (hn : t.2.2.2.1.length ≤ 1073741824) (ul : wl u.2.2.2.1) (un : u.2.2.2.1.length ≤ 1073741824) : F_919 k t u = some (bckT k t u) := by
  unfold bckT
  have r1 := right_eq t hl (by omega)
  have r2 := right_eq u ul (by omega)
  have len : rightS t = true → rightS u = true → t.1 = u.1 → t.2.1 = u.2.1 → u.2.2.2.1.length = t.2.2.2.1.length := by
    intro a b c d
    have := right_len a
    have := right_len b
    rw [c, d] at *
    omega
  have ek := fun (c : u.2.2.2.1.length = t.2.2.2.1.length) => eachK_eq u u t u.2.2.1 k ul un hl (by omega)
  obtain ⟨a1, a2, a3, A, ⟨⟩⟩ := t
  obtain ⟨b1, b2, b3, B, ⟨⟩⟩ := u
  simp only at hl hn ul un len ek
  unfold F_919
  dsimp only
  simp only [List.take_length]
  rw [show F_927 (a1, (a2, (a3, (A, ())))) = _ from r1]
  simp only [Option.bind_some]
  cases c1 : rightS (a1, a2, a3, A, ())
  · rfl
  rw [show F_927 (b1, (b2, (b3, (B, ())))) = _ from r2]
  simp only [Option.bind_some]
  cases c2 : rightS (b1, b2, b3, B, ())
  · rfl
  simp only [Bool.not_true, cond_false, bif_ne, Bool.true_and]
  by_cases h1 : a1 = b1
  · rw [if_pos h1]
    by_cases h2 : a2 = b2
    · have e0 : List.getD [k] 0 0 = k := rfl
      rw [if_pos h2, e0, act_k]
      simp only [Option.bind_some]
      rw [decide_eq_true h1, decide_eq_true h2]
      by_cases hk : 0 ≤ k ∧ k ≤ 3
      · rw [decide_eq_true hk, if_pos hk]
        simp only [Bool.not_true, cond_false, Bool.and_self, if_true]
        rw [show F_9b9 (b1, (b2, (b3, (B, ())))) b3 (b1, (b2, (b3, (B, ())))) [k] (a1, (a2, (a3, (A, ())))) = _ from ek (len c1 c2 h1 h2)]
        simp only [Option.bind_some, List.take_length]
        rfl
      · rw [decide_eq_false hk, if_neg hk]; rfl
    · rw [if_neg h2, decide_eq_false h2, if_neg (by simp)]
  · rw [if_neg h1, decide_eq_false h1, if_neg (by simp)]
theorem bckr_all (t u : TsT) (k : Int) (hl : wl t.2.2.2.1) (hn : t.2.2.2.1.length ≤ 1073741824) (ul : wl u.2.2.2.1) (un : u.2.2.2.1.length ≤ 1073741824) : F_91a k t u = some (bckT k t u) := by
  unfold bckT
  have r1 := rightr_eq t hl (by omega)
  have r2 := rightr_eq u ul (by omega)
  have len : rightS t = true → rightS u = true → t.1 = u.1 → t.2.1 = u.2.1 → u.2.2.2.1.length = t.2.2.2.1.length := by
    intro a b c d
    have := right_len a
    have := right_len b
    rw [c, d] at *
    omega
  obtain ⟨a1, a2, a3, A, ⟨⟩⟩ := t
  obtain ⟨b1, b2, b3, B, ⟨⟩⟩ := u
  simp only at hl hn ul un len
  unfold F_91a
  dsimp only
  simp only [List.take_length, Int.toNat_natCast]
  rw [show F_926 (a1, (a2, (a3, (A, ())))) = _ from r1]
  simp only [Option.bind_some]
  cases c1 : rightS (a1, a2, a3, A, ())
  · rfl
  rw [show F_926 (b1, (b2, (b3, (B, ())))) = _ from r2]
  simp only [Option.bind_some]
  cases c2 : rightS (b1, b2, b3, B, ())
  · rfl
  simp only [Bool.not_true, cond_false, bif_ne, Bool.true_and]
  by_cases h1 : a1 = b1
  · rw [if_pos h1]
    by_cases h2 : a2 = b2
    · rw [if_pos h2, actr_k]
      simp only [Option.bind_some]
      rw [decide_eq_true h1, decide_eq_true h2]
      by_cases hk : 0 ≤ k ∧ k ≤ 3
      · rw [decide_eq_true hk, if_pos hk]
        simp only [Bool.not_true, cond_false, Bool.and_self, if_true, bif_dec]
        rw [if_pos (by omega)]
        have lAB := len c1 c2 h1 h2
        have := lim_seq (st := st_91a_0) (fun i => ((k, ((i : Int), ())), ((a1, (a2, (a3, (A, ())))), ((b1, (b2, (b3, (B, ())))), (((0:Int), ((0:Int), ((0:Int), ()))), ((b1, (b2, (b3, (B.length, ())))), (lay1 (bkH k a3 b3 A B) B.length i, ())))))))
          (b := ((), (((0:Int), ((0:Int), ((0:Int), ()))), ((b1, (b2, (b3, (B.length, ())))), (lay1 (bkH k a3 b3 A B) B.length B.length, ()))))) B.length
          (fun i hi R kn ko => by
            have hll := lay1_len (bkH k a3 b3 A B) (Nat.le_of_lt hi)
            have hls := lay1_set (bkH k a3 b3 A B) hi
            have e1 := wider_eq (b1, b2, b3, B, ()) (i := i) ul hi
            rw [wideL_get (b1, b2, b3, B, ()) hi] at e1
            have e2 := wider_eq (a1, a2, a3, A, ()) (i := i) hl (by simp only; omega)
            rw [wideL_get (a1, a2, a3, A, ()) (by simp only; omega)] at e2
            have w1 := widen_w b3 (B.getD i 0)
            have w2 := widen_w a3 (A.getD i 0)
            have w3 := sloV_w k w2
            unfold st_91a_0
            dsimp only at hls e1 e2 ⊢
            simp only [List.take_length, bif_dec, hll, Int.toNat_natCast]
            rw [if_pos (show (i : Int) < (B.length : Int) by omega)]
            rw [show F_93f (b1, (b2, (b3, (B, ())))) (i : Int) = _ from e1]
            simp only [Option.bind_some]
            rw [show F_93f (a1, (a2, (a3, (A, ())))) (i : Int) = _ from e2]
            simp only [Option.bind_some]
            rw [slor_eq k w2]
            simp only [Option.bind_some]
            rw [rmul_eq w1 w3]
            simp only [Option.bind_some]
            rw [narrowr_eq b3 (mulf_w _ _)]
            simp only [Option.bind_some]
            rw [if_pos (show 0 ≤ (i : Int) ∧ (i : Int) < (B.length : Int) by omega), if_pos (show 0 + i * 1 < B.length by omega), show 0 + i * 1 = i by omega]
            rw [show (lay1 (bkH k a3 b3 A B) B.length i).set i (narrow b3 (mulf (widen b3 (B.getD i 0)) (sloV k (widen a3 (A.getD i 0))))) = _ from hls, wi64 (by omega), show ((i + 1 : Nat) : Int) = (i : Int) + 1 by omega])
          (fun R kn ko => by
            unfold st_91a_0
            dsimp only
            simp only [List.take_length, bif_dec]
            rw [if_neg (show ¬ (B.length : Int) < (B.length : Int) by omega)])
        rw [lay1_zero] at this
        have e : lim st_91a_0 ((k, ((0 : Int), ())), ((a1, (a2, (a3, (A, ())))), ((b1, (b2, (b3, (B, ())))), (((0:Int), ((0:Int), ((0:Int), ()))), ((b1, (b2, (b3, (B.length, ())))), (List.replicate B.length 0, ())))))) = _ := this
        rw [e]
        simp only [Option.bind_some, List.drop_zero, lay1_all]
        rw [List.take_of_length_le (by simp)]
      · rw [decide_eq_false hk, if_neg hk]; rfl
    · rw [if_neg h2, decide_eq_false h2, if_neg (by simp)]
  · rw [if_neg h1, decide_eq_false h1, if_neg (by simp)]
end Go.Proofs.YtfpjkmgfkaoapaaGreat.VI

namespace Go.Proofs.YtfpjkmgfkaoapaaGreat.VI
set_option linter.unusedVariables false
set_option linter.unusedSimpArgs false
set_option maxRecDepth 100000
noncomputable def O_99 : Orc := (orm c_9c (orm c_912 (orm c_9d (orm c_913 (orm c_914 (orm c_910 (orm c_915 (orm c_916 (orm c_917 (orm c_9e (orm c_918 (orm c_919 (orm c_91a c_91b)))))))))))))
theorem okO_99 : OrcOk PR O_99 := (orm_ok ok_9c (orm_ok ok_912 (orm_ok ok_9d (orm_ok ok_913 (orm_ok ok_914 (orm_ok ok_910 (orm_ok ok_915 (orm_ok ok_916 (orm_ok ok_917 (orm_ok ok_9e (orm_ok ok_918 (orm_ok ok_919 (orm_ok ok_91a ok_91b)))))))))))))
abbrev fa_99 : Fm := (.pair (.agg (.pair (.i .i64) (.pair (.i .i64) (.pair (.i .i64) (.pair (.si .u32) .unit))))) (.pair (.agg (.pair (.i .i64) (.pair (.i .i64) (.pair (.i .i64) (.pair (.si .u32) .unit))))) (.pair (.i .i64) (.pair (.i .u8) (.pair (.i .u8) (.pair (.i .u8) (.pair (.i .u8) (.pair (.si .u32) (.pair (.i .u32) (.pair .b .unit))))))))))
abbrev ha_99 : List BF := []
abbrev fr_99 : Fm := .b
abbrev hr_99 : List BF := []
noncomputable def L_99 : Lps := (lpB 18 (.un 4 [8, 10, 11, 21, 22, 24, 84, 85, 86, 127, 128, 129]) (lpB 12 (.un 4 [8, 10, 11, 21, 22, 24, 84, 85, 86, 95, 96, 97]) (lpB 9 (.un 3 [8, 10, 11, 21, 22, 84, 85, 86]) L0)))
def inn_99 : T fr_99 → TH hr_99 → Bool := (fun z w => z)
def out_99 : Bool → T fr_99 × TH hr_99 := fun r => (r, ())
noncomputable def F_99 (a0 : Int × Int × Int × List Int × Unit) (a1 : Int × Int × Int × List Int × Unit) (a2 : Int) (a3 : Int) (a4 : Int) (a5 : Int) (a6 : Int) (a7 : List Int) (a8 : Int) (a9 : Bool) : Option (Bool) :=
 let x0 : Int := a0.2.2.1
 let x1 : List Int := a0.2.2.2.1
 let x2 : Int := a1.2.2.1
 let x3 : List Int := a1.2.2.2.1
 let x4 : Int := (IntKind.wrap .i64 (Int.tmod a4 (5:Int)))
 let x5 : Int := (IntKind.wrap .i64 (Int.tmod a5 (5:Int)))
 let x6 : List Int := (List.take (List.length a7) a7)
 let x7 : Nat := ((0:Nat) + (List.length a7))
 let x8 : List Int := [a2, (IntKind.wrap .i64 (Int.tmod a3 (4:Int)))]
 let x9 : Int := (List.getD x8 (0:Nat) (0:Int))
 let x10 : Int := (List.getD x8 (1:Nat) (0:Int))
 (F_9c).bind fun r11 =>
 bif (!r11) then
 (some false)
 else
 ((F_912 (a0.1, (a0.2.1, (x0, ((List.take (List.length x1) x1), ())))))).bind fun r12 =>
 bif (!r12) then
 (some true)
 else
 ((F_912 (a1.1, (a1.2.1, (x2, ((List.take (List.length x3) x3), ())))))).bind fun r13 =>
 bif (!r13) then
 (some true)
 else
 bif (decide ((((List.length a7) : Nat) : Int) > (30:Int))) then
 (some true)
 else
 ((F_9d x4 x5 (IntKind.wrap .i64 (Int.tmod a6 (3:Int))) x6 a9)).bind fun r14 =>
 let x15 : Int := r14.2.2.1
 let x16 : List Int := r14.2.2.2.1
 bif (decide (x7 ≤ (1073741824:Nat))) then
 bif (decide ((x7 + (1:Nat)) ≤ (1073741824:Nat))) then
 ((F_9d x4 x5 (IntKind.wrap .i64 (Int.tmod (IntKind.wrap .u8 (Int.tdiv a6 (3:Int))) (3:Int))) (List.take (x7 + (1:Nat)) (List.drop (0:Nat) ((List.take x7 ([] ++ x6)) ++ [(9:Int)]))) a9)).bind fun r17 =>
 let x18 : Int := r17.2.2.1
 let x19 : List Int := r17.2.2.2.1
 ((F_913 (2:Int) a8)).bind fun r20 =>
 ((F_914 (2:Int) a8)).bind fun r21 =>
 let x22 : List Int := [a8, r20, r21]
 let x23 : Int := (List.getD x22 (0:Nat) (0:Int))
 let x24 : Int := (List.getD x22 (1:Nat) (0:Int))
 let x25 : Int := (List.getD x22 (2:Nat) (0:Int))
 ((F_910 x9 x23)).bind fun r26 =>
 ((F_915 x9 x23)).bind fun r27 =>
 bif (r26 != r27) then
 (some false)
 else
 ((F_916 x9 x23)).bind fun r28 =>
 ((F_917 x9 x23)).bind fun r29 =>
 bif (r28 != r29) then
 (some false)
 else
 ((F_910 x9 x24)).bind fun r30 =>
 ((F_915 x9 x24)).bind fun r31 =>
 bif (r30 != r31) then
 (some false)
 else
 ((F_916 x9 x24)).bind fun r32 =>
 ((F_917 x9 x24)).bind fun r33 =>
 bif (r32 != r33) then
 (some false)
 else
 ((F_910 x9 x25)).bind fun r34 =>
 ((F_915 x9 x25)).bind fun r35 =>
 bif (r34 != r35) then
 (some false)
 else
 ((F_916 x9 x25)).bind fun r36 =>
 ((F_917 x9 x25)).bind fun r37 =>
 bif (r36 != r37) then
 (some false)
 else
 ((F_9e x9 (a0.1, (a0.2.1, (x0, ((List.take (List.length x1) x1), ())))))).bind fun r38 =>
 let x39 : Int := r38.1.2.1
 let x40 : Int := r38.1.2.2.1
 let x41 : List Int := r38.1.2.2.2.1
 ((F_918 x9 (a0.1, (a0.2.1, (x0, ((List.take (List.length x1) x1), ())))))).bind fun r42 =>
 let x43 : Int := r42.1.2.1
 let x44 : Int := r42.1.2.2.1
 let x45 : List Int := r42.1.2.2.2.1
 ((F_919 x9 (a0.1, (a0.2.1, (x0, ((List.take (List.length x1) x1), ())))) (a1.1, (a1.2.1, (x2, ((List.take (List.length x3) x3), ())))))).bind fun r46 =>
 let x47 : Int := r46.1.2.1
 let x48 : Int := r46.1.2.2.1
 let x49 : List Int := r46.1.2.2.2.1
 ((F_91a x9 (a0.1, (a0.2.1, (x0, ((List.take (List.length x1) x1), ())))) (a1.1, (a1.2.1, (x2, ((List.take (List.length x3) x3), ())))))).bind fun r50 =>
 let x51 : Int := r50.1.2.1
 let x52 : Int := r50.1.2.2.1
 let x53 : List Int := r50.1.2.2.2.1
 bif (r38.2.1 != r42.2.1) then
 (some false)
 else
 ((F_91b (r38.1.1, (x39, (x40, ((List.take (List.length x41) x41), ())))) (r42.1.1, (x43, (x44, ((List.take (List.length x45) x45), ())))))).bind fun r54 =>
 bif (!r54) then
 (some false)
 else
 bif (r46.2.1 != r50.2.1) then
 (some false)
 else
 ((F_91b (r46.1.1, (x47, (x48, ((List.take (List.length x49) x49), ())))) (r50.1.1, (x51, (x52, ((List.take (List.length x53) x53), ())))))).bind fun r55 =>
 bif (!r55) then
 (some false)
 else
 ((F_9e x9 (r14.1, (r14.2.1, (x15, ((List.take (List.length x16) x16), ())))))).bind fun r56 =>
 let x57 : Int := r56.1.2.1
 let x58 : Int := r56.1.2.2.1
 let x59 : List Int := r56.1.2.2.2.1
 ((F_918 x9 (r14.1, (r14.2.1, (x15, ((List.take (List.length x16) x16), ())))))).bind fun r60 =>
 let x61 : Int := r60.1.2.1
 let x62 : Int := r60.1.2.2.1
 let x63 : List Int := r60.1.2.2.2.1
 ((F_919 x9 (r14.1, (r14.2.1, (x15, ((List.take (List.length x16) x16), ())))) (r17.1, (r17.2.1, (x18, ((List.take (List.length x19) x19), ())))))).bind fun r64 =>
 let x65 : Int := r64.1.2.1
 let x66 : Int := r64.1.2.2.1
 let x67 : List Int := r64.1.2.2.2.1
 ((F_91a x9 (r14.1, (r14.2.1, (x15, ((List.take (List.length x16) x16), ())))) (r17.1, (r17.2.1, (x18, ((List.take (List.length x19) x19), ())))))).bind fun r68 =>
 let x69 : Int := r68.1.2.1
 let x70 : Int := r68.1.2.2.1
 let x71 : List Int := r68.1.2.2.2.1
 bif (r56.2.1 != r60.2.1) then
 (some false)
 else
 ((F_91b (r56.1.1, (x57, (x58, ((List.take (List.length x59) x59), ())))) (r60.1.1, (x61, (x62, ((List.take (List.length x63) x63), ())))))).bind fun r72 =>
 bif (!r72) then
 (some false)
 else
 bif (r64.2.1 != r68.2.1) then
 (some false)
 else
 ((F_91b (r64.1.1, (x65, (x66, ((List.take (List.length x67) x67), ())))) (r68.1.1, (x69, (x70, ((List.take (List.length x71) x71), ())))))).bind fun r73 =>
 bif (!r73) then
 (some false)
 else
 ((F_9e x9 (r14.1, (r14.2.1, (x15, ((List.take (List.length x16) x16), ())))))).bind fun r74 =>
 let x75 : Int := r74.1.2.1
 let x76 : Int := r74.1.2.2.1
 let x77 : List Int := r74.1.2.2.2.1
 ((F_918 x9 (r14.1, (r14.2.1, (x15, ((List.take (List.length x16) x16), ())))))).bind fun r78 =>
 let x79 : Int := r78.1.2.1
 let x80 : Int := r78.1.2.2.1
 let x81 : List Int := r78.1.2.2.2.1
 ((F_919 x9 (r14.1, (r14.2.1, (x15, ((List.take (List.length x16) x16), ())))) (a0.1, (a0.2.1, (x0, ((List.take (List.length x1) x1), ())))))).bind fun r82 =>
 let x83 : Int := r82.1.2.1
 let x84 : Int := r82.1.2.2.1
 let x85 : List Int := r82.1.2.2.2.1
 ((F_91a x9 (r14.1, (r14.2.1, (x15, ((List.take (List.length x16) x16), ())))) (a0.1, (a0.2.1, (x0, ((List.take (List.length x1) x1), ())))))).bind fun r86 =>
 let x87 : Int := r86.1.2.1
 let x88 : Int := r86.1.2.2.1
 let x89 : List Int := r86.1.2.2.2.1
 bif (r74.2.1 != r78.2.1) then
 (some false)
 else
 ((F_91b (r74.1.1, (x75, (x76, ((List.take (List.length x77) x77), ())))) (r78.1.1, (x79, (x80, ((List.take (List.length x81) x81), ())))))).bind fun r90 =>
 bif (!r90) then
 (some false)
 else
 bif (r82.2.1 != r86.2.1) then
 (some false)
 else
 ((F_91b (r82.1.1, (x83, (x84, ((List.take (List.length x85) x85), ())))) (r86.1.1, (x87, (x88, ((List.take (List.length x89) x89), ())))))).bind fun r91 =>
 bif (!r91) then
 (some false)
 else
 ((F_913 (2:Int) a8)).bind fun r92 =>
 ((F_914 (2:Int) a8)).bind fun r93 =>
 let x94 : List Int := [a8, r92, r93]
 let x95 : Int := (List.getD x94 (0:Nat) (0:Int))
 let x96 : Int := (List.getD x94 (1:Nat) (0:Int))
 let x97 : Int := (List.getD x94 (2:Nat) (0:Int))
 ((F_910 x10 x95)).bind fun r98 =>
 ((F_915 x10 x95)).bind fun r99 =>
 bif (r98 != r99) then
 (some false)
 else
 ((F_916 x10 x95)).bind fun r100 =>
 ((F_917 x10 x95)).bind fun r101 =>
 bif (r100 != r101) then
 (some false)
 else
 ((F_910 x10 x96)).bind fun r102 =>
 ((F_915 x10 x96)).bind fun r103 =>
 bif (r102 != r103) then
 (some false)
 else
 ((F_916 x10 x96)).bind fun r104 =>
 ((F_917 x10 x96)).bind fun r105 =>
 bif (r104 != r105) then
 (some false)
 else
 ((F_910 x10 x97)).bind fun r106 =>
 ((F_915 x10 x97)).bind fun r107 =>
 bif (r106 != r107) then
 (some false)
 else
 ((F_916 x10 x97)).bind fun r108 =>
 ((F_917 x10 x97)).bind fun r109 =>
 bif (r108 != r109) then
 (some false)
 else
 ((F_9e x10 (a0.1, (a0.2.1, (x0, ((List.take (List.length x1) x1), ())))))).bind fun r110 =>
 let x111 : Int := r110.1.2.1
 let x112 : Int := r110.1.2.2.1
 let x113 : List Int := r110.1.2.2.2.1
 ((F_918 x10 (a0.1, (a0.2.1, (x0, ((List.take (List.length x1) x1), ())))))).bind fun r114 =>
 let x115 : Int := r114.1.2.1
 let x116 : Int := r114.1.2.2.1
 let x117 : List Int := r114.1.2.2.2.1
 ((F_919 x10 (a0.1, (a0.2.1, (x0, ((List.take (List.length x1) x1), ())))) (a1.1, (a1.2.1, (x2, ((List.take (List.length x3) x3), ())))))).bind fun r118 =>
 let x119 : Int := r118.1.2.1
 let x120 : Int := r118.1.2.2.1
 let x121 : List Int := r118.1.2.2.2.1
 ((F_91a x10 (a0.1, (a0.2.1, (x0, ((List.take (List.length x1) x1), ())))) (a1.1, (a1.2.1, (x2, ((List.take (List.length x3) x3), ())))))).bind fun r122 =>
 let x123 : Int := r122.1.2.1
 let x124 : Int := r122.1.2.2.1
 let x125 : List Int := r122.1.2.2.2.1
 bif (r110.2.1 != r114.2.1) then
 (some false)
 else
 ((F_91b (r110.1.1, (x111, (x112, ((List.take (List.length x113) x113), ())))) (r114.1.1, (x115, (x116, ((List.take (List.length x117) x117), ())))))).bind fun r126 =>
 bif (!r126) then
 (some false)
 else
 bif (r118.2.1 != r122.2.1) then
 (some false)
 else
 ((F_91b (r118.1.1, (x119, (x120, ((List.take (List.length x121) x121), ())))) (r122.1.1, (x123, (x124, ((List.take (List.length x125) x125), ())))))).bind fun r127 =>
 bif (!r127) then
 (some false)
 else
 ((F_9e x10 (r14.1, (r14.2.1, (x15, ((List.take (List.length x16) x16), ())))))).bind fun r128 =>
 let x129 : Int := r128.1.2.1
 let x130 : Int := r128.1.2.2.1
 let x131 : List Int := r128.1.2.2.2.1
 ((F_918 x10 (r14.1, (r14.2.1, (x15, ((List.take (List.length x16) x16), ())))))).bind fun r132 =>
 let x133 : Int := r132.1.2.1
 let x134 : Int := r132.1.2.2.1
 let x135 : List Int := r132.1.2.2.2.1
 ((F_919 x10 (r14.1, (r14.2.1, (x15, ((List.take (List.length x16) x16), ())))) (r17.1, (r17.2.1, (x18, ((List.take (List.length x19) x19), ())))))).bind fun r136 =>
 let x137 : Int := r136.1.2.1
 let x138 : Int := r136.1.2.2.1
 let x139 : List Int := r136.1.2.2.2.1
 ((F_91a x10 (r14.1, (r14.2.1, (x15, ((List.take (List.length x16) x16), ())))) (r17.1, (r17.2.1, (x18, ((List.take (List.length x19) x19), ())))))).bind fun r140 =>
 let x141 : Int := r140.1.2.1
 let x142 : Int := r140.1.2.2.1
 let x143 : List Int := r140.1.2.2.2.1
 bif (r128.2.1 != r132.2.1) then
 (some false)
 else
 ((F_91b (r128.1.1, (x129, (x130, ((List.take (List.length x131) x131), ())))) (r132.1.1, (x133, (x134, ((List.take (List.length x135) x135), ())))))).bind fun r144 =>
 bif (!r144) then
 (some false)
 else
 bif (r136.2.1 != r140.2.1) then
 (some false)
 else
 ((F_91b (r136.1.1, (x137, (x138, ((List.take (List.length x139) x139), ())))) (r140.1.1, (x141, (x142, ((List.take (List.length x143) x143), ())))))).bind fun r145 =>
 bif (!r145) then
 (some false)
 else
 ((F_9e x10 (r14.1, (r14.2.1, (x15, ((List.take (List.length x16) x16), ())))))).bind fun r146 =>
 let x147 : Int := r146.1.2.1
 let x148 : Int := r146.1.2.2.1
 let x149 : List Int := r146.1.2.2.2.1
 ((F_918 x10 (r14.1, (r14.2.1, (x15, ((List.take (List.length x16) x16), ())))))).bind fun r150 =>
 let x151 : Int := r150.1.2.1
 let x152 : Int := r150.1.2.2.1
 let x153 : List Int := r150.1.2.2.2.1
 ((F_919 x10 (r14.1, (r14.2.1, (x15, ((List.take (List.length x16) x16), ())))) (a0.1, (a0.2.1, (x0, ((List.take (List.length x1) x1), ())))))).bind fun r154 =>
 let x155 : Int := r154.1.2.1
 let x156 : Int := r154.1.2.2.1
 let x157 : List Int := r154.1.2.2.2.1
 ((F_91a x10 (r14.1, (r14.2.1, (x15, ((List.take (List.length x16) x16), ())))) (a0.1, (a0.2.1, (x0, ((List.take (List.length x1) x1), ())))))).bind fun r158 =>
 let x159 : Int := r158.1.2.1
 let x160 : Int := r158.1.2.2.1
 let x161 : List Int := r158.1.2.2.2.1
 bif (r146.2.1 != r150.2.1) then
 (some false)
 else
 ((F_91b (r146.1.1, (x147, (x148, ((List.take (List.length x149) x149), ())))) (r150.1.1, (x151, (x152, ((List.take (List.length x153) x153), ())))))).bind fun r162 =>
 bif (!r162) then
 (some false)
 else
 bif (r154.2.1 != r158.2.1) then
 (some false)
 else
 ((F_91b (r154.1.1, (x155, (x156, ((List.take (List.length x157) x157), ())))) (r158.1.1, (x159, (x160, ((List.take (List.length x161) x161), ())))))).bind fun r163 =>
 bif (!r163) then
 (some false)
 else
 (some true)
 else
 none
 else
 none
noncomputable def G_99 : T fa_99 → TH ha_99 → Option (Bool) := fun x y => F_99 x.1 x.2.1 x.2.2.1 x.2.2.2.1 x.2.2.2.2.1 x.2.2.2.2.2.1 x.2.2.2.2.2.2.1 x.2.2.2.2.2.2.2.1 x.2.2.2.2.2.2.2.2.1 x.2.2.2.2.2.2.2.2.2.1
noncomputable def c_99 : Orc := ent i_99 [] 0 (sp fa_99 ha_99 fr_99 hr_99 G_99 out_99)
theorem ok_99 : OrcOk PR c_99 := fnT okO_99 mixed p_99 (by kernel_rfl) (by kernel_rfl) (L := L_99) (kp := false) (by kernel_rfl) (inn := inn_99) (out := out_99) (fun _ _ => rfl) (loopsL (l := []) (by kernel_rfl) trivial) (fun x y => by kernel_rfl)
end Go.Proofs.YtfpjkmgfkaoapaaGreat.VI

namespace Go.Proofs.YtfpjkmgfkaoapaaGreat.VI
set_option linter.unusedVariables false
set_option linter.unusedSimpArgs false
set_option maxRecDepth 100000
set_option maxHeartbeats 8000000
noncomputable def VBd (k v : Int) (K : Option Bool) : Option Bool :=
  (F_910 k v).bind fun r26 =>
  (F_915 k v).bind fun r27 =>
  bif (r26 != r27) then (some false) else
  (F_916 k v).bind fun r28 =>
  (F_917 k v).bind fun r29 =>
  bif (r28 != r29) then (some false) else K
theorem vb_ok (k : Int) {v : Int} (h : w32 v) (K : Option Bool) : VBd k v K = K := by
  unfold VBd
  rw [val_eq k h, valr_eq k h, slo_eq k h, slor_eq k h]
  simp only [Option.bind_some, bne_self_eq_false, cond_false]
noncomputable def FBd (k : Int) (p q : TsT) (K : Option Bool) : Option Bool :=
  (F_9e k (tk p)).bind fun r38 =>
  (F_918 k (tk p)).bind fun r42 =>
  (F_919 k (tk p) (tk q)).bind fun r46 =>
  (F_91a k (tk p) (tk q)).bind fun r50 =>
  bif (r38.2.1 != r42.2.1) then (some false) else
  (F_91b (tk r38.1) (tk r42.1)).bind fun r54 =>
  bif (!r54) then (some false) else
  bif (r46.2.1 != r50.2.1) then (some false) else
  (F_91b (tk r46.1) (tk r50.1)).bind fun r55 =>
  bif (!r55) then (some false) else K
theorem fwdT_len (k : Int) (t : TsT) : (fwdT k t).1.2.2.2.1.length ≤ t.2.2.2.1.length := by
  unfold fwdT fwdL
  split
  · split <;> simp
  · simp
theorem bckT_len (k : Int) (t u : TsT) : (bckT k t u).1.2.2.2.1.length ≤ u.2.2.2.1.length := by
  unfold bckT
  split
  · split <;> simp
  · simp
theorem fb_ok (k : Int) (p q : TsT) (K : Option Bool) (hp : wl p.2.2.2.1) (np : p.2.2.2.1.length ≤ 1073741824) (hq : wl q.2.2.2.1) (nq : q.2.2.2.1.length ≤ 1073741824) : FBd k p q K = K := by
  have l1 := fwdT_len k p
  have l2 := bckT_len k p q
  unfold FBd
  simp only [tk_id]
  rw [fwd_all p k hp np, fwdr_all p k hp np, bck_all p q k hp np hq nq, bckr_all p q k hp np hq nq]
  simp only [Option.bind_some, bne_self_eq_false, cond_false]
  rw [tens_eq _ _ (by omega), tens_eq _ _ (by omega)]
  simp
theorem actTells (a b : TsT) {kk k m n f x : Int} (l : List Int) (mild : Bool) (hA : wl a.2.2.2.1) (hB : wl b.2.2.2.1) (hm : 0 ≤ m) (hn : 0 ≤ n) (hx : w32 x) :
    F_99 a b kk k m n f l x mild = some true := by
  have un : F_99 a b kk k m n f l x mild =
    F_9c.bind fun r11 =>
    bif (!r11) then (some false) else
    (F_912 (tk a)).bind fun r12 =>
    bif (!r12) then (some true) else
    (F_912 (tk b)).bind fun r13 =>
    bif (!r13) then (some true) else
    bif (decide ((((List.length l) : Nat) : Int) > (30:Int))) then (some true) else
    (F_9d (IntKind.wrap .i64 (Int.tmod m (5:Int))) (IntKind.wrap .i64 (Int.tmod n (5:Int))) (IntKind.wrap .i64 (Int.tmod f (3:Int))) (List.take (List.length l) l) mild).bind fun r14 =>
    bif (decide (((0:Nat) + (List.length l)) ≤ (1073741824:Nat))) then
      bif (decide ((((0:Nat) + (List.length l)) + (1:Nat)) ≤ (1073741824:Nat))) then
        (F_9d (IntKind.wrap .i64 (Int.tmod m (5:Int))) (IntKind.wrap .i64 (Int.tmod n (5:Int))) (IntKind.wrap .i64 (Int.tmod (IntKind.wrap .u8 (Int.tdiv f (3:Int))) (3:Int))) (List.take (((0:Nat) + (List.length l)) + (1:Nat)) (List.drop (0:Nat) ((List.take ((0:Nat) + (List.length l)) ([] ++ (List.take (List.length l) l))) ++ [(9:Int)]))) mild).bind fun r17 =>
        (F_913 (2:Int) x).bind fun r20 =>
        (F_914 (2:Int) x).bind fun r21 =>
        VBd kk x <| VBd kk r20 <| VBd kk r21 <| FBd kk a b <| FBd kk r14 r17 <| FBd kk r14 a <|
        (F_913 (2:Int) x).bind fun s20 =>
        (F_914 (2:Int) x).bind fun s21 =>
        VBd (IntKind.wrap .i64 (Int.tmod k (4:Int))) x <| VBd (IntKind.wrap .i64 (Int.tmod k (4:Int))) s20 <| VBd (IntKind.wrap .i64 (Int.tmod k (4:Int))) s21 <| FBd (IntKind.wrap .i64 (Int.tmod k (4:Int))) a b <| FBd (IntKind.wrap .i64 (Int.tmod k (4:Int))) r14 r17 <| FBd (IntKind.wrap .i64 (Int.tmod k (4:Int))) r14 a <| some true
      else none
    else none := by kernel_rfl
  rw [un, known15]
  simp only [tk_id, Option.bind_some, Bool.not_true, cond_false, bif_dec, List.take_length]
  obtain ⟨y, hy⟩ := light_some a
  obtain ⟨z, hz⟩ := light_some b
  rw [hy, hz]
  simp only [Option.bind_some]
  cases y
  · rfl
  cases z
  · rfl
  have la := light_len hy
  have lb := light_len hz
  simp only [Bool.not_true, cond_false]
  by_cases ll : (((l.length : Nat) : Int) > 30)
  · rw [if_pos ll]
  rw [if_neg ll]
  obtain ⟨M, eM, hM⟩ := tmod5 hm
  obtain ⟨N, eN, hN⟩ := tmod5 hn
  rw [eM, eN]
  generalize IntKind.wrap .i64 (Int.tmod f 3) = f'
  generalize IntKind.wrap .i64 (Int.tmod (IntKind.wrap .u8 (Int.tdiv f 3)) 3) = g'
  generalize IntKind.wrap .i64 (Int.tmod k 4) = k'
  obtain ⟨V1, h1, l1, w1, _⟩ := seatT M N f' l mild (by omega) (by omega) (by omega)
  obtain ⟨V2, h2, l2, w2, _⟩ := seatT M N g' (List.take (((0:Nat) + (List.length l)) + (1:Nat)) (List.drop (0:Nat) ((List.take ((0:Nat) + (List.length l)) ([] ++ l)) ++ [(9:Int)]))) mild (by omega) (by omega) (by simp; omega)
  obtain ⟨nv, en, hnv⟩ := num_w 2 hx
  obtain ⟨mv', em, hmv, _⟩ := mild_p 2 hx
  rw [h1]
  simp only [Option.bind_some]
  rw [if_pos (by omega), if_pos (by omega), h2, en, em]
  simp only [Option.bind_some]
  have b1 := rc_bd (show M ≤ 4096 by omega) (show N ≤ 4096 by omega)
  have wm := wf_w hmv
  have W1 := wf_wl w1
  have W2 := wf_wl w2
  have f1 := fun (q : Int) (K : Option Bool) => fb_ok q a b K hA (by omega) hB (by omega)
  have f2 := fun (q : Int) (K : Option Bool) => fb_ok q ((M : Int), (N : Int), f', V1, ()) ((M : Int), (N : Int), g', V2, ()) K W1 (by simp only; omega) W2 (by simp only; omega)
  have f3 := fun (q : Int) (K : Option Bool) => fb_ok q ((M : Int), (N : Int), f', V1, ()) a K W1 (by simp only; omega) hA (by omega)
  rw [vb_ok _ hx, vb_ok _ hnv, vb_ok _ wm, f1, f2, f3, vb_ok _ hx, vb_ok _ hnv, vb_ok _ wm, f1, f2, f3]
theorem callActTells : ∀ l, args [.pair (.i .i64) (.pair (.i .i64) (.pair (.i .i64) (.pair (.ints .u32) (.unit)))), .pair (.i .i64) (.pair (.i .i64) (.pair (.i .i64) (.pair (.ints .u32) (.unit)))), .i .i64, .i .u8, .i .u8, .i .u8, .i .u8, .ints .u32, .i .u32, .b] l → oks l → CallOk PR i_99 l [] fun r _ => r = .b true :=
  rowT (fa := fa_99) (F := G_99) rfl rfl ok_99 (enters p_99 (by kernel_rfl) (by kernel_rfl)) rfl fun x hx =>
    actTells _ _ _ _ (wl_ok hx.1.2.2.2.1.2) (wl_ok hx.2.1.2.2.2.1.2) hx.2.2.2.2.1.1 hx.2.2.2.2.2.1.1 ⟨hx.2.2.2.2.2.2.2.2.1.1, Int.lt_add_one_of_le hx.2.2.2.2.2.2.2.2.1.2⟩
end Go.Proofs.YtfpjkmgfkaoapaaGreat.VI

namespace Go.Proofs.YtfpjkmgfkaoapaaGreat.VI
set_option linter.unusedVariables false
set_option linter.unusedSimpArgs false
open Go.ChangeShapes Go.WideShapes Go.RowKit Go.WideElems YtfpjkmgfkaoapaaGreat
set_option maxRecDepth 100000
theorem laid : laidOutB Tryz.prog = true := by kernel_rfl
theorem own : ownKnob Tryz.prog.godebug = none := by kernel_rfl
theorem lifted (os : Os) (started : os.Started) (H : Type) (enc : TypeId × Value → H) :
    ReturnsInHanded {} Tryz.checked os 4 .any (Rows.actTellsSpec.pre6 enc Tryz.prog Tryz.f4 Rows.actTellsRow.domain false) (Rows.actTellsSpec.post enc Tryz.prog Tryz.f4 false true false false) :=
  lift_args (C := Tryz.checked) own started (by kernel_rfl) Tryz.func4
    (ChangeSpec.witness6 (enc := enc) (C := Tryz.checked) false ⟨#[], #[.agg #[.int .i64 0, .int .i64 0, .int .i64 0, .slice none 0 0], .agg #[.int .i64 0, .int .i64 0, .int .i64 0, .slice none 0 0], .int .i64 0, .int .u8 0, .int .u8 0, .int .u8 0, .int .u8 0, .slice none 0 0, .int .u32 0, .bool false], []⟩ 8 (by kernel_rfl) (by kernel_rfl) (by kernel_rfl) (by kernel_rfl))
    laid Tryz.underlying4 rfl (by kernel_rfl) rfl (fun ds hd => match ds, hd with
    | [_, _, _, _, _, _, _, _, _, _], _ => rfl) (d := 6) (by kernel_rfl) (Fs := [.pair (.i .i64) (.pair (.i .i64) (.pair (.i .i64) (.pair (.ints .u32) (.unit)))), .pair (.i .i64) (.pair (.i .i64) (.pair (.i .i64) (.pair (.ints .u32) (.unit)))), .i .i64, .i .u8, .i .u8, .i .u8, .i .u8, .ints .u32, .i .u32, .b]) (by kernel_rfl) callActTells
theorem over : Rows.actTellsRow.holds Tryz.pinned (OpenSpec.ofChange Rows.actTellsSpec) :=
  OpenClaim.holds_of_wide 4 Tryz.f4 rfl rfl rfl rfl rfl rfl rfl ⟨rfl, rfl, rfl, rfl, rfl⟩ rfl rfl rfl rfl rfl (by kernel_rfl) Tryz.func4 (by kernel_rfl)
    (of_decide_eq_true (by kernel_rfl)) (by unfold Func.isWrapper; first | (rw [if_pos (by decide +kernel)]; kernel_rfl) | (rw [if_neg (by decide +kernel)]; exact ⟨rfl, rfl⟩))
    (fun os started H enc _ => lifted os started H enc)
end Go.Proofs.YtfpjkmgfkaoapaaGreat.VI
