import Derived.Test.YtfpjkmgfkaoapaaTb6edda0e
import Derived.Test.YtfpjkmgfkaoapaaRows
import Derived.WalkKit
import Derived.ProofKit
namespace Go.Proofs.Ytfpjkmgfkaoapaa.VI
set_option linter.unusedVariables false
set_option linter.unusedSimpArgs false
set_option maxRecDepth 100000
set_option maxHeartbeats 4000000
def mildP (f v : Int) : Prop := nan f v = false ∧ inff f v = false ∧ (v % TT f = 0 → v = 0)
theorem mild_p {k : Int} (f : Int) (h : w32 k) : ∃ v, F_99 f k = some v ∧ wf f v ∧ mildP f v := by
  have fb := fmt_bd f
  unfold F_99
  rw [bif_eq]
  by_cases h0 : Int.tmod k 7 = 0
  · rw [if_pos h0]; refine ⟨0, rfl, ⟨by omega, by omega⟩, ?_⟩
    have ib := IN_bd f
    refine ⟨?_, ?_, fun _ => rfl⟩
    · unfold nan; rw [Int.zero_emod]; exact decide_eq_false (by omega)
    · unfold inff; rw [Int.zero_emod]; exact decide_eq_false (by omega)
  rw [if_neg h0, zeror_w, ← widr_nf f]
  have key : ∀ (x : Int), 0 < x → x < IN f → (x % (TT f) = x ∧ (TT f + x) % TT f = x) := by
    intro x h1 h2
    have ib := IN_bd f
    refine ⟨Int.emod_eq_of_lt (by omega) (by omega), ?_⟩
    rw [Int.add_comm, Int.add_emod_right]; exact Int.emod_eq_of_lt (by omega) (by omega)
  have fin : ∀ (x : Int), 0 < x → x < IN f → ∃ v, (bif (bits .and .u32 k 1 == 1) then some (bits .or .u32 x (sgn f true)) else some x) = some v ∧ wf f v ∧ mildP f v := by
    intro x h1 h2
    have ib := IN_bd f
    have kx := key x h1 h2
    cases bits .and .u32 k 1 == 1
    · refine ⟨x, rfl, ⟨by omega, by omega⟩, ?_, ?_, ?_⟩
      · unfold nan; rw [kx.1]; simp; omega
      · unfold inff; rw [kx.1]; simp; omega
      · rw [kx.1]; intro q; exact q
    · have e : bits .or .u32 x (sgn f true) = TT f + x := by
        rw [or_comm32, sgn_or f true ⟨by omega, by omega⟩]; unfold sgn; simp
      refine ⟨TT f + x, by rw [e]; rfl, ⟨by omega, by omega⟩, ?_, ?_, ?_⟩
      · unfold nan; rw [kx.2]; simp; omega
      · unfold inff; rw [kx.2]; simp; omega
      · rw [kx.2]; intro q; omega
  have hd : Int.tmod (k / 8) 4096 = k / 8 % 4096 ∧ Int.tmod (k / 8) 512 = k / 8 % 512 ∧ Int.tmod (k / 8) 33554432 = k / 8 % 33554432 := by
    have : 0 ≤ k / 8 := by have := h.1; omega
    exact ⟨tmod_nn this, tmod_nn this, tmod_nn this⟩
  have hI : IN f = (RR f - 1) * BB f := rfl
  rw [← nf_RR f, ← nf_BB f] at hI
  rcases nf_cases f with e | e | e <;> rw [e] at hI ⊢
  · have hI2 : IN f = 31744 := hI
    have := fin (IntKind.wrap .u32 (13312 + Int.tmod (k / 8) 4096)) (by rw [hd.1, wu32 (by omega)]; omega) (by rw [hd.1, wu32 (by omega)]; omega)
    exact this
  · have hI2 : IN f = 32640 := hI
    have := fin (IntKind.wrap .u32 (16000 + Int.tmod (k / 8) 512)) (by rw [hd.2.1, wu32 (by omega)]; omega) (by rw [hd.2.1, wu32 (by omega)]; omega)
    exact this
  · have hI2 : IN f = 2139095040 := hI
    have := fin (IntKind.wrap .u32 (1048576000 + Int.tmod (k / 8) 33554432)) (by rw [hd.2.2, wu32 (by omega)]; omega) (by rw [hd.2.2, wu32 (by omega)]; omega)
    exact this
theorem num_wf (f : Int) {k : Int} (h : w32 k) : ∃ v, F_9a f k = some v ∧ wf f v := by
  unfold F_9a
  rw [maskr_eq, zeror_w, ← widr_nf f]
  have h15 : (0:Int) ≤ Int.tmod k 15 ∧ Int.tmod k 15 < 15 := by rw [tmod_nn h.1]; omega
  have o : ∀ y, wf f (bits .or .u32 (bits .and .u32 y (2 * TT f - 1)) (sgn f true)) := fun y => by
    have := or_top_bd f y
    unfold sgn; exact this
  rcases nf_cases f with e | e | e <;> rw [e]
  all_goals
    show ∃ v, (bif decide ((0:Int) ≤ Int.tmod k 15 ∧ Int.tmod k 15 < 15) then (bif decide ((0:Nat) + (Int.toNat (Int.tmod k 15)) * 1 < 15) then (bif (k / 2147483648 == 1) then some (bits .or .u32 (bits .and .u32 _ (2 * TT f - 1)) (sgn f true)) else some (bits .and .u32 _ (2 * TT f - 1))) else none) else none) = some v ∧ wf f v
    rw [bif_dec, if_pos h15, bif_dec, if_pos (by omega)]
    cases k / 2147483648 == 1
    · exact ⟨_, rfl, and_mask_bd f _⟩
    · exact ⟨_, rfl, o _⟩
theorem wrap_w (n : Int) : w32 (IntKind.wrap .u32 n) := by rw [wu32_eq]; exact ⟨by omega, by omega⟩
theorem seatT (R C : Nat) (f : Int) (l : List Int) (m : Bool) (hR : R ≤ 4096) (hC : C ≤ 4096) (hl : l.length < 4611686018427387904) :
    ∃ V, F_95 (R : Int) (C : Int) f l m = some ((R : Int), (C : Int), f, V, ()) ∧ V.length = R * C ∧ (∀ v ∈ V, wf f v) ∧ (m = true → ∀ v ∈ V, mildP f v) := by
  have hb := rc_bd hR hC
  have hRC : ((R : Int) * (C : Int)) = ((R * C : Nat) : Int) := by simp
  obtain ⟨r, hr, V, hr2, lV, wV, mV⟩ := lim_post (st := st_95_0)
    (fun v => ∃ (i : Nat) (V : List Int), v = (((R : Int), ((C : Int), (f, (l, (m, ((i : Int), ())))))), (((0:Int), ((0:Int), ((0:Int), ()))), (((R : Int), ((C : Int), (f, ((i : Nat), ())))), (V, ())))) ∧ i ≤ R * C ∧ V.length = i ∧ (∀ v ∈ V, wf f v) ∧ (m = true → ∀ v ∈ V, mildP f v))
    (fun v => R * C + 1 - v.2.2.1.2.2.2.1)
    (fun r => ∃ (V : List Int), r = ((), (((0:Int), ((0:Int), ((0:Int), ()))), (((R : Int), ((C : Int), (f, ((R * C : Nat), ())))), (V, ())))) ∧ V.length = R * C ∧ (∀ v ∈ V, wf f v) ∧ (m = true → ∀ v ∈ V, mildP f v))
    (fun v hv => by
      obtain ⟨i, V, rfl, h1, h2, h3, h4⟩ := hv
      by_cases hi : i < R * C
      · left
        have h30 : i + 1 ≤ 1073741824 := by omega
        have stp : ∃ v, (∀ R' kn ko, st_95_0 R' (((R : Int), ((C : Int), (f, (l, (m, ((i : Int), ())))))), (((0:Int), ((0:Int), ((0:Int), ()))), (((R : Int), ((C : Int), (f, ((i : Nat), ())))), (V, ())))) kn ko = kn (((R : Int), ((C : Int), (f, (l, (m, (((i + 1 : Nat) : Int), ())))))), (((0:Int), ((0:Int), ((0:Int), ()))), (((R : Int), ((C : Int), (f, ((i + 1 : Nat), ())))), (V ++ [v], ()))))) ∧ wf f v ∧ (m = true → mildP f v) := by
          by_cases hl0 : ((l.length : Nat) : Int) > 0
          · have ht : 0 ≤ Int.tmod (i : Int) ((l.length : Nat) : Int) ∧ Int.tmod (i : Int) ((l.length : Nat) : Int) < ((l.length : Nat) : Int) := by
              rw [tmod_nn (by omega)]; exact ⟨Int.emod_nonneg _ (by omega), Int.emod_lt_of_pos _ hl0⟩
            have hz : (((l.length : Nat) : Int) == 0) = false := beq_false_of_ne (by omega)
            cases m
            · obtain ⟨v, hv, hw⟩ := num_wf f  (k := (IntKind.wrap .u32 ((List.getD l (Int.toNat (Int.tmod (i : Int) ((l.length : Nat) : Int))) (0:Int)) + (IntKind.wrap .u32 ((IntKind.wrap .u32 (IntKind.wrap .i64 (Int.tdiv (i : Int) ((l.length : Nat) : Int)))) * (40503:Int)))))) (wrap_w _)
              refine ⟨v, fun R' kn ko => ?_, hw, fun h => by cases h⟩
              unfold st_95_0
              dsimp only
              simp only [List.take_length, bif_dec, hz, hRC]
              rw [wi64 (n := ((R * C : Nat) : Int)) (by omega), if_pos (show (i : Int) < ((R * C : Nat) : Int) by omega), if_pos hl0, cond_false, if_pos ht, cond_false, cond_false, hv, wi64 (n := (i : Int) + 1) (by omega), show ((i + 1 : Nat) : Int) = (i : Int) + 1 by omega]
              rw [List.take_of_length_le (show V.length ≤ i by omega)]
              simp only [Option.bind_some]
              rw [if_pos h30]
            · obtain ⟨v, hv, hw, hm⟩ := mild_p f  (k := (IntKind.wrap .u32 ((List.getD l (Int.toNat (Int.tmod (i : Int) ((l.length : Nat) : Int))) (0:Int)) + (IntKind.wrap .u32 ((IntKind.wrap .u32 (IntKind.wrap .i64 (Int.tdiv (i : Int) ((l.length : Nat) : Int)))) * (40503:Int)))))) (wrap_w _)
              refine ⟨v, fun R' kn ko => ?_, hw, fun _ => hm⟩
              unfold st_95_0
              dsimp only
              simp only [List.take_length, bif_dec, hz, hRC]
              rw [wi64 (n := ((R * C : Nat) : Int)) (by omega), if_pos (show (i : Int) < ((R * C : Nat) : Int) by omega), if_pos hl0, cond_false, if_pos ht, cond_false, cond_true, hv, wi64 (n := (i : Int) + 1) (by omega), show ((i + 1 : Nat) : Int) = (i : Int) + 1 by omega]
              rw [List.take_of_length_le (show V.length ≤ i by omega)]
              simp only [Option.bind_some]
              rw [if_pos h30]
          · cases m
            · obtain ⟨v, hv, hw⟩ := num_wf f  (k := (IntKind.wrap .u32 ((IntKind.wrap .u32 (i : Int)) * (2654435761:Int)))) (wrap_w _)
              refine ⟨v, fun R' kn ko => ?_, hw, fun h => by cases h⟩
              unfold st_95_0
              dsimp only
              simp only [List.take_length, bif_dec, hRC]
              rw [wi64 (n := ((R * C : Nat) : Int)) (by omega), if_pos (show (i : Int) < ((R * C : Nat) : Int) by omega), if_neg hl0, cond_false, hv, wi64 (n := (i : Int) + 1) (by omega), show ((i + 1 : Nat) : Int) = (i : Int) + 1 by omega]
              rw [List.take_of_length_le (show V.length ≤ i by omega)]
              simp only [Option.bind_some]
              rw [if_pos h30]
            · obtain ⟨v, hv, hw, hm⟩ := mild_p f  (k := (IntKind.wrap .u32 ((IntKind.wrap .u32 (i : Int)) * (2654435761:Int)))) (wrap_w _)
              refine ⟨v, fun R' kn ko => ?_, hw, fun _ => hm⟩
              unfold st_95_0
              dsimp only
              simp only [List.take_length, bif_dec, hRC]
              rw [wi64 (n := ((R * C : Nat) : Int)) (by omega), if_pos (show (i : Int) < ((R * C : Nat) : Int) by omega), if_neg hl0, cond_true, hv, wi64 (n := (i : Int) + 1) (by omega), show ((i + 1 : Nat) : Int) = (i : Int) + 1 by omega]
              rw [List.take_of_length_le (show V.length ≤ i by omega)]
              simp only [Option.bind_some]
              rw [if_pos h30]
        obtain ⟨v, hs, hw, hm⟩ := stp
        refine ⟨_, hs, ⟨i + 1, V ++ [v], rfl, by omega, by simp [h2], ?_, ?_⟩, by simp only; omega⟩
        · intro c hc; rcases List.mem_append.1 hc with q | q
          · exact h3 c q
          · simp at q; rw [q]; exact hw
        · intro hmt c hc; rcases List.mem_append.1 hc with q | q
          · exact h4 hmt c q
          · simp at q; rw [q]; exact hm hmt
      · right
        have e : i = R * C := by omega
        subst e
        refine ⟨_, fun R' kn ko => ?_, ⟨V, rfl, h2, h3, h4⟩⟩
        unfold st_95_0
        dsimp only
        simp only [List.take_length, bif_dec, hRC]
        rw [wi64 (n := ((R * C : Nat) : Int)) (by omega), if_neg (show ¬ ((R * C : Nat) : Int) < ((R * C : Nat) : Int) by omega)])
    (((R : Int), ((C : Int), (f, (l, (m, ((0:Int), ())))))), (((0:Int), ((0:Int), ((0:Int), ()))), (((R : Int), ((C : Int), (f, ((0:Nat), ())))), ([], ()))))
    ⟨0, [], rfl, by omega, rfl, fun c hc => absurd hc (by simp), fun _ c hc => absurd hc (by simp)⟩
  refine ⟨V, ?_, lV, wV, mV⟩
  unfold F_95
  rw [List.take_length, hr, hr2]
  simp only [Option.bind_some, List.drop_zero]
  rw [List.take_of_length_le (by omega)]
theorem wf_wl {f : Int} {V : List Int} (h : ∀ v ∈ V, wf f v) : wl V := fun a ha => wf_w (h a ha)
theorem wf_right {R C : Nat} {f : Int} {V : List Int} (hR : R ≤ 4096) (hC : C ≤ 4096) (hl : V.length = R * C) (hf : knownS f = true) (h : ∀ v ∈ V, wf f v) : rightS ((R : Int), (C : Int), f, V, ()) = true :=
  right_mk hR hC hl hf (List.all_eq_true.2 fun a ha => decide_eq_true (h a ha).2)
end Go.Proofs.Ytfpjkmgfkaoapaa.VI

namespace Go.Proofs.Ytfpjkmgfkaoapaa.VI
set_option linter.unusedVariables false
set_option linter.unusedSimpArgs false
set_option maxRecDepth 100000
noncomputable def O_93 : Orc := (orm c_94 (orm c_95 (orm c_97 c_98)))
theorem okO_93 : OrcOk PR O_93 := (orm_ok ok_94 (orm_ok ok_95 (orm_ok ok_97 ok_98)))
abbrev fa_93 : Fm := (.pair (.i .u8) (.pair (.i .u8) (.pair (.si .i64) (.pair (.si .u32) .unit))))
abbrev fr_93 : Fm := .b
abbrev ff_93_0 : Fm := (.us 2 (.pair (.si .i64) (.us 6 (.cst (.ref 0 1 0) (.pair (.i .i64) (.pair (.i .i64) (.us 102 .unit)))))))
abbrev hf_93_0 : List BF := [(.list 1 y_90 true (.pair (.i .i64) (.pair (.i .i64) (.pair (.i .i64) (.pair (.si .u32) .unit)))))]
abbrev X_93_0 : Xs := (.one (.exit 0) [2, 9, 10] (.us 2 (.pair (.si .i64) (.us 6 (.cst (.ref 0 1 0) (.pair (.i .i64) (.us 103 .unit)))))) [(.list 1 y_90 true (.pair (.i .i64) (.pair (.i .i64) (.pair (.i .i64) (.pair (.si .u32) .unit)))))])
abbrev S_93_0 : Type := T ff_93_0 × TH hf_93_0
abbrev E_93_0 : Type := TX X_93_0
noncomputable def LB_93_0 : Lps := L0
noncomputable def st_93_0 : StepT S_93_0 E_93_0 := fun R v kn ko =>
 let x0 : List Int := v.1.1
 let x1 : List Int := (List.take (List.length x0) x0)
 let x2 : List Int := v.2.1.2.2.2.1
 let x3 : Int := v.1.2.1
 bif (decide (v.1.2.2.1 < (((List.length x0) : Nat) : Int))) then
 bif (decide (((0:Int) ≤ v.1.2.2.1) ∧ (v.1.2.2.1 < (((List.length x0) : Nat) : Int)))) then
 bif (decide ((List.getD x0 (Int.toNat v.1.2.2.1) (0:Int)) < (0:Int))) then
 (kn ((x1, ((22:Int), ((IntKind.wrap .i64 (v.1.2.2.1 + (1:Int))), ()))), ((v.2.1.1, (v.2.1.2.1, (v.2.1.2.2.1, ((List.take (List.length x2) x2), ())))), ())))
 else
 bif (decide (((0:Int) ≤ v.1.2.2.1) ∧ (v.1.2.2.1 < (((List.length x0) : Nat) : Int)))) then
 (kn ((x1, ((bif (decide ((List.getD x0 (Int.toNat v.1.2.2.1) (0:Int)) ≥ v.2.1.2.1)) then (22:Int) else x3), ((IntKind.wrap .i64 (v.1.2.2.1 + (1:Int))), ()))), ((v.2.1.1, (v.2.1.2.1, (v.2.1.2.2.1, ((List.take (List.length x2) x2), ())))), ())))
 else
 none
 else
 none
 else
 (ko ((x1, (x3, ())), ((v.2.1.1, (v.2.1.2.1, (v.2.1.2.2.1, ((List.take (List.length x2) x2), ())))), ())))
noncomputable def ls_93_0 : St → LTr := (lsum ff_93_0 hf_93_0 X_93_0 Prod.mk id st_93_0 (hd [] [] [2, 9, 10, 11] 0))
theorem lp_93_0 : LoopOk PR 0 (lpN f_93 0) ls_93_0 := loopT okO_93 mixed (L := LB_93_0) (d := 1) (bs := []) (ks := [2, 9, 10, 11]) (loopsL (l := []) (by kernel_rfl) trivial) (by kernel_rfl) (inS := Prod.mk) (outS := id) (fun _ _ => rfl) (inX := id) (outX := id) (fun _ => rfl) (fun v R kn ko => by kernel_rfl) (hd_wk [] [] [2, 9, 10, 11] 0)
noncomputable def L_93 : Lps := (lpB 9 (.by_ ls_93_0) L0)
noncomputable def F_93 (a0 : Int) (a1 : Int) (a2 : List Int) (a3 : List Int) : Option (Bool) :=
 (F_94).bind fun r0 =>
 bif (!r0) then
 (some false)
 else
 bif (decide ((((List.length a2) : Nat) : Int) > (8:Int))) then
 (some true)
 else
 bif (decide ((((List.length a3) : Nat) : Int) > (20:Int))) then
 (some true)
 else
 ((F_95 (IntKind.wrap .i64 (Int.tmod a0 (5:Int))) (IntKind.wrap .i64 (Int.tmod a1 (5:Int))) (0:Int) (List.take (List.length a3) a3) true)).bind fun r1 =>
 let x2 : Int := r1.2.2.1
 let x3 : List Int := r1.2.2.2.1
 ((lim st_93_0 (((List.take (List.length a2) a2), ((0:Int), ((0:Int), ()))), ((r1.1, (r1.2.1, (x2, ((List.take (List.length x3) x3), ())))), ())))).bind fun r4 =>
 let x5 : List Int := r4.1.1
 let x6 : Nat := (List.length x5)
 let x7 : Int := r4.2.1.1
 let x8 : Int := r4.2.1.2.1
 let x9 : List Int := r4.2.1.2.2.2.1
 let x10 : List Int := (List.take x6 x5)
 let x11 : Int := r4.1.2.1
 let x12 : Int := (bif (x8 == (0:Int)) then (21:Int) else x11)
 bif (((x6 : Nat) : Int) != x7) then
 ((F_97 (x7, (x8, (r4.2.1.2.2.1, ((List.take (List.length x9) x9), ())))) x10)).bind fun r13 =>
 let x14 : Int := r13.2.2.1
 let x15 : List Int := r13.2.1.2.2.2.1
 let x16 : Int := r13.2.1.1
 ((F_98 (x7, (x8, (r4.2.1.2.2.1, ((List.take (List.length x9) x9), ())))) x10)).bind fun r17 =>
 bif (x14 == (21:Int)) then
 bif (r17.2.1 == (21:Int)) then
 bif (r13.1 == (0:Int)) then
 bif ((((List.length x15) : Nat) : Int) == (0:Int)) then
 bif (x16 == (0:Int)) then
 (some (r17.1 == (0:Int)))
 else
 (some false)
 else
 (some false)
 else
 (some false)
 else
 (some false)
 else
 (some false)
 else
 bif (decide (x7 > (0:Int))) then
 ((F_97 (x7, (x8, (r4.2.1.2.2.1, ((List.take (List.length x9) x9), ())))) x10)).bind fun r18 =>
 let x19 : Int := r18.2.2.1
 let x20 : List Int := r18.2.1.2.2.2.1
 let x21 : Int := r18.2.1.1
 ((F_98 (x7, (x8, (r4.2.1.2.2.1, ((List.take (List.length x9) x9), ())))) x10)).bind fun r22 =>
 bif (x19 == x12) then
 bif (r22.2.1 == x12) then
 bif (x12 == (0:Int)) then
 (some true)
 else
 bif (r18.1 == (0:Int)) then
 bif ((((List.length x20) : Nat) : Int) == (0:Int)) then
 bif (x21 == (0:Int)) then
 (some (r22.1 == (0:Int)))
 else
 (some false)
 else
 (some false)
 else
 (some false)
 else
 (some false)
 else
 (some false)
 else
 ((F_97 (x7, (x8, (r4.2.1.2.2.1, ((List.take (List.length x9) x9), ())))) x10)).bind fun r23 =>
 let x24 : Int := r23.2.2.1
 let x25 : List Int := r23.2.1.2.2.2.1
 let x26 : Int := r23.2.1.1
 ((F_98 (x7, (x8, (r4.2.1.2.2.1, ((List.take (List.length x9) x9), ())))) x10)).bind fun r27 =>
 bif (x24 == x11) then
 bif (r27.2.1 == x11) then
 bif (x11 == (0:Int)) then
 (some true)
 else
 bif (r23.1 == (0:Int)) then
 bif ((((List.length x25) : Nat) : Int) == (0:Int)) then
 bif (x26 == (0:Int)) then
 (some (r27.1 == (0:Int)))
 else
 (some false)
 else
 (some false)
 else
 (some false)
 else
 (some false)
 else
 (some false)
noncomputable def G_93 : T fa_93 → TH hN0 → Option (Bool) := fun x y => F_93 x.1 x.2.1 x.2.2.1 x.2.2.2.1
noncomputable def c_93 : Orc := ent i_93 [] 0 (sp fa_93 hN0 fr_93 hN0 G_93 (outN fr_93))
theorem ok_93 : OrcOk PR c_93 := fnT okO_93 mixed p_93 (by kernel_rfl) (by kernel_rfl) (L := L_93) (kp := false) (by kernel_rfl) (inn := (innN fr_93)) (out := (outN fr_93)) (fun _ _ => rfl) (loopsL (l := [((lpN f_93 0), ls_93_0)]) (by kernel_rfl) ⟨lp_93_0, trivial⟩) (fun x y => by kernel_rfl)
end Go.Proofs.Ytfpjkmgfkaoapaa.VI

namespace Go.Proofs.Ytfpjkmgfkaoapaa.VI
set_option linter.unusedVariables false
set_option linter.unusedSimpArgs false
set_option maxRecDepth 100000
set_option maxHeartbeats 8000000
theorem tmod5' {a : Int} (h : 0 ≤ a) : ∃ n : Nat, IntKind.wrap .i64 (Int.tmod a 5) = n ∧ n ≤ 4 := by
  refine ⟨(a % 5).toNat, ?_, by omega⟩
  rw [tmod_nn h, wi64 (by omega)]; omega
def wnt (y : List Int) (c : Int) : Nat → Int
  | 0 => 0
  | i + 1 => if yOk c (y.getD i 0) = true then wnt y c i else 22
theorem wnt_cs (y : List Int) (c : Int) : ∀ i, (wnt y c i = 0 ∧ ∀ j, j < i → yOk c (y.getD j 0) = true) ∨ (wnt y c i = 22 ∧ ∃ j, j < i ∧ ¬ yOk c (y.getD j 0) = true)
  | 0 => Or.inl ⟨rfl, fun j hj => absurd hj (by omega)⟩
  | i + 1 => by
    unfold wnt
    by_cases h : yOk c (y.getD i 0) = true
    · rw [if_pos h]
      rcases wnt_cs y c i with ⟨a, b⟩ | ⟨a, j, hj, hb⟩
      · left; refine ⟨a, fun j hj => ?_⟩
        rcases Nat.lt_succ_iff_lt_or_eq.1 hj with q | q
        · exact b j q
        · subst q; exact h
      · right; exact ⟨a, j, by omega, hb⟩
    · rw [if_neg h]; right; exact ⟨rfl, i, by omega, h⟩
theorem wnt_all (y : List Int) (c : Int) : wnt y c y.length = if y.all (yOk c) = true then 0 else 22 := by
  rcases wnt_cs y c y.length with ⟨a, b⟩ | ⟨a, j, hj, hb⟩
  · rw [a, if_pos (all_get.2 b)]
  · rw [a, if_neg (fun q => hb (all_get.1 q j hj))]
theorem wnt_loop (y : List Int) (M N f : Int) (V : List Int) (hn : y.length < 1000000) :
    lim st_93_0 ((y, ((0:Int), ((0:Int), ()))), ((M, (N, (f, (V, ())))), ())) = some ((y, ((if y.all (yOk N) = true then (0 : Int) else 22), ())), ((M, (N, (f, (V, ())))), ())) := by
  rw [← wnt_all]
  exact lim_seq (st := st_93_0) (fun i => ((y, (wnt y N i, ((i : Int), ()))), ((M, (N, (f, (V, ())))), ()))) y.length
    (fun i hi Q kn ko => by
      have hw : wnt y N (i + 1) = if yOk N (y.getD i 0) = true then wnt y N i else 22 := rfl
      unfold st_93_0
      dsimp only
      simp only [List.take_length]
      simp only [bif_dec, Int.toNat_natCast]
      rw [if_pos (show (i : Int) < (y.length : Int) by omega), if_pos (show 0 ≤ (i : Int) ∧ (i : Int) < (y.length : Int) by omega), wi64 (by omega), show ((i + 1 : Nat) : Int) = (i : Int) + 1 by omega, hw]
      unfold yOk
      by_cases c1 : y.getD i 0 < 0
      · rw [if_pos c1, decide_eq_false (show ¬ 0 ≤ y.getD i 0 by omega)]; rfl
      · rw [if_neg c1, if_pos (show 0 ≤ (i : Int) ∧ (i : Int) < (y.length : Int) by omega), decide_eq_true (show 0 ≤ y.getD i 0 by omega)]
        by_cases c2 : y.getD i 0 ≥ N
        · rw [if_pos c2, decide_eq_false (show ¬ y.getD i 0 < N by omega)]; rfl
        · rw [if_neg c2, decide_eq_true (show y.getD i 0 < N by omega)]; rfl)
    (fun Q kn ko => by
      unfold st_93_0
      dsimp only
      simp only [List.take_length, bif_dec]
      rw [if_neg (show ¬ (y.length : Int) < (y.length : Int) by omega)])
theorem sm_bad {t : TsT} {y : List Int} (h : labE t y ≠ 0) : smT t y = (0, noT, labE t y, ()) := by unfold smT; rw [if_neg h]
theorem rg_bad {t : TsT} {y : List Int} (h : labE t y ≠ 0) : rgtT t y = (0, labE t y, ()) := by unfold rgtT; rw [if_neg h]
theorem sm_err (t : TsT) (y : List Int) : (smT t y).2.2.1 = labE t y := by
  unfold smT; by_cases h : labE t y = 0
  · rw [if_pos h, h]
  · rw [if_neg h]
theorem rg_err (t : TsT) (y : List Int) : (rgtT t y).2.1 = labE t y := by
  unfold rgtT; by_cases h : labE t y = 0
  · rw [if_pos h, h]
  · rw [if_neg h]
theorem lossRefuses {m n : Int} (y l : List Int) (hm : 0 ≤ m) (hn : 0 ≤ n) : F_93 m n y l = some true := by
  unfold F_93
  dsimp only
  simp only [List.take_length]
  rw [known16]
  simp only [Option.bind_some, Bool.not_true, cond_false, bif_dec]
  by_cases ly : (((y.length : Nat) : Int) > 8)
  · rw [if_pos ly]
  rw [if_neg ly]
  by_cases ll : (((l.length : Nat) : Int) > 20)
  · rw [if_pos ll]
  rw [if_neg ll]
  obtain ⟨M, eM, hM⟩ := tmod5' hm
  obtain ⟨N, eN, hN⟩ := tmod5' hn
  rw [eM, eN]
  obtain ⟨V, h1, l1, w1, _⟩ := seatT M N 0 l true (by omega) (by omega) (by omega)
  have b1 := rc_bd (show M ≤ 4096 by omega) (show N ≤ 4096 by omega)
  have W := wf_wl w1
  have hr : rightS ((M : Int), (N : Int), 0, V, ()) = true := wf_right (by omega) (by omega) l1 (by decide) w1
  rw [h1]
  simp only [Option.bind_some, List.take_length]
  rw [wnt_loop y (M : Int) (N : Int) 0 V (by omega)]
  simp only [Option.bind_some, List.take_length]
  have hS := softmax_eq ((M : Int), (N : Int), 0, V, ()) y W (by simp only; omega) (by omega)
  have hG := rgt_eq ((M : Int), (N : Int), 0, V, ()) y W (by simp only; omega) (by omega)
  have eS := sm_err ((M : Int), (N : Int), 0, V, ()) y
  have eG := rg_err ((M : Int), (N : Int), 0, V, ()) y
  rw [hS, hG]
  simp only [Option.bind_some, bif_ne, bif_eq, eS, eG]
  have B := fun h => @labE_bad ((M : Int), (N : Int), 0, V, ()) y h
  have O := fun h => @labE_ok ((M : Int), (N : Int), 0, V, ()) y h
  rw [hr] at B O
  simp only at B O
  have bad : labE ((M : Int), (N : Int), 0, V, ()) y ≠ 0 → (smT ((M : Int), (N : Int), 0, V, ()) y).1 = 0 ∧ (smT ((M : Int), (N : Int), 0, V, ()) y).2.1.2.2.2.1 = [] ∧ (smT ((M : Int), (N : Int), 0, V, ()) y).2.1.1 = 0 ∧ (rgtT ((M : Int), (N : Int), 0, V, ()) y).1 = 0 := by
    intro h; rw [sm_bad h, rg_bad h]; exact ⟨rfl, rfl, rfl, rfl⟩
  generalize smT ((M : Int), (N : Int), 0, V, ()) y = S at *
  generalize rgtT ((M : Int), (N : Int), 0, V, ()) y = G at *
  generalize labE ((M : Int), (N : Int), 0, V, ()) y = E at *
  generalize hw : (if y.all (yOk (N : Int)) = true then (0 : Int) else 22) = w at *
  have tail : ∀ x : Int, E = x → (if E = x then if E = x then if x = 0 then some true else if S.1 = 0 then if ((S.2.1.2.2.2.1.length : Nat) : Int) = 0 then if S.2.1.1 = 0 then some (G.1 == 0) else some false else some false else some false else some false else some false) = some true := by
    intro x hx
    rw [if_pos hx, if_pos hx]
    by_cases h0 : x = 0
    · rw [if_pos h0]
    · rw [if_neg h0]
      obtain ⟨p1, p2, p3, p4⟩ := bad (by omega)
      rw [p1, p2, p3, p4]; rfl
  by_cases h1 : ((y.length : Nat) : Int) = (M : Int)
  · rw [if_pos h1]
    by_cases h2 : (M : Int) > 0
    · rw [if_pos h2]
      by_cases h3 : (N : Int) = 0
      · rw [if_pos h3]
        exact tail 21 (B (by rintro ⟨_, _, q⟩; exact q ⟨h2, h3⟩))
      · rw [if_neg h3]
        exact tail w (O ⟨trivial, h1.symm, fun q => h3 q.2⟩)
    · rw [if_neg h2]
      exact tail w (O ⟨trivial, h1.symm, fun q => h2 q.1⟩)
  · rw [if_neg h1]
    have e21 : E = 21 := B (fun q => h1 q.2.1.symm)
    obtain ⟨p1, p2, p3, p4⟩ := bad (by omega)
    rw [if_pos e21, if_pos e21, p1, p2, p3, p4]; rfl
theorem callLossRefuses : ∀ l, args [.i .u8, .i .u8, .ints .i64, .ints .u32] l → oks l → CallOk PR i_93 l [] fun r _ => r = .b true :=
  rowT (fa := fa_93) (F := G_93) rfl rfl ok_93 (enters p_93 (by kernel_rfl) (by kernel_rfl)) rfl fun x hx =>
    lossRefuses _ _ hx.1.1 hx.2.1.1
end Go.Proofs.Ytfpjkmgfkaoapaa.VI

namespace Go.Proofs.Ytfpjkmgfkaoapaa.VI
set_option linter.unusedVariables false
set_option linter.unusedSimpArgs false
open Go.ChangeShapes Go.WideShapes Go.RowKit Go.WideElems Ytfpjkmgfkaoapaa
set_option maxRecDepth 100000
theorem laid : laidOutB Try.prog = true := by kernel_rfl
theorem own : ownKnob Try.prog.godebug = none := by kernel_rfl
theorem lifted (os : Os) (started : os.Started) (H : Type) (enc : TypeId × Value → H) :
    ReturnsInHanded {} Try.checked os 4 .any (Rows.lossRefusesSpec.pre6 enc Try.prog Try.f4 Rows.lossRefusesRow.domain false) (Rows.lossRefusesSpec.post enc Try.prog Try.f4 false true false false) :=
  lift_args (C := Try.checked) own started (by kernel_rfl) Try.func4
    (ChangeSpec.witness6 (enc := enc) (C := Try.checked) false ⟨#[], #[.int .u8 0, .int .u8 0, .slice none 0 0, .slice none 0 0], []⟩ 8 (by kernel_rfl) (by kernel_rfl) (by kernel_rfl) (by kernel_rfl))
    laid Try.underlying4 rfl (by kernel_rfl) rfl (fun ds hd => match ds, hd with
    | [_, _, _, _], _ => rfl) (d := 6) (by kernel_rfl) (Fs := [.i .u8, .i .u8, .ints .i64, .ints .u32]) (by kernel_rfl) callLossRefuses
theorem over : Rows.lossRefusesRow.holds Try.pinned (OpenSpec.ofChange Rows.lossRefusesSpec) :=
  OpenClaim.holds_of_wide 4 Try.f4 rfl rfl rfl rfl rfl rfl rfl ⟨rfl, rfl, rfl, rfl, rfl⟩ rfl rfl rfl rfl rfl (by kernel_rfl) Try.func4 (by kernel_rfl)
    (of_decide_eq_true (by kernel_rfl)) (by unfold Func.isWrapper; first | (rw [if_pos (by decide +kernel)]; kernel_rfl) | (rw [if_neg (by decide +kernel)]; exact ⟨rfl, rfl⟩))
    (fun os started H enc _ => lifted os started H enc)
end Go.Proofs.Ytfpjkmgfkaoapaa.VI
