import Derived.Test.YtcpicekmnkjceaaT205f77b3
import Derived.Test.YtcpicekmnkjceaaRows
import Derived.WalkKit
import Derived.ProofKit
namespace Go.Proofs.Ytcpicekmnkjceaa.VI
set_option linter.unusedVariables false
set_option linter.unusedSimpArgs false
set_option maxRecDepth 100000
set_option linter.unusedSimpArgs false
set_option linter.unusedVariables false
noncomputable def O_anneallaw24_ConfigBytes : Orc := (orm c_anneallaw24_known (orm c_annealseat_Config c_config_Put))
theorem okO_anneallaw24_ConfigBytes : OrcOk PR O_anneallaw24_ConfigBytes := (orm_ok ok_anneallaw24_known (orm_ok ok_annealseat_Config ok_config_Put))
abbrev fa_anneallaw24_ConfigBytes : Fm := (.pair (.i .u8) (.pair (.i .u8) (.pair (.i .u8) (.pair (.i .u8) (.pair (.i .u64) .unit)))))
abbrev ha_anneallaw24_ConfigBytes : List BF := []
abbrev fr_anneallaw24_ConfigBytes : Fm := .b
abbrev hr_anneallaw24_ConfigBytes : List BF := []
abbrev ff_anneallaw24_ConfigBytes_0 : Fm := (.us 4 (.pair (.i .u64) (.us 6 (.cst (.ref 0 1 0) (.pair (.si .u8) (.us 1 (.pair (.i .i64) (.pair (.i .i64) (.us 166 .unit)))))))))
abbrev hf_anneallaw24_ConfigBytes_0 : List BF := [(.list 1 y_api_Config true (.pair (.si .i64) (.pair (.i .i64) (.pair (.i .i64) (.pair (.i .i64) (.pair (.i .i64) (.pair (.i .i64) (.pair (.i .u32) (.pair (.i .u32) (.pair (.i .u32) (.pair (.i .u32) (.pair (.i .u32) (.pair (.i .u32) (.pair (.i .i64) (.pair (.i .i64) (.pair (.i .i64) (.pair (.i .i64) (.pair (.i .u64) (.pair (.i .u32) (.pair .b (.pair (.i .i64) (.pair (.i .i64) (.pair (.i .i64) (.pair (.i .i64) (.pair (.i .i64) (.pair (.i .i64) (.pair (.i .i64) .unit)))))))))))))))))))))))))))]
abbrev X_anneallaw24_ConfigBytes_0 : Xs := (.alt (.exit 0) [4, 11, 12, 14] (.us 4 (.pair (.i .u64) (.us 6 (.cst (.ref 0 1 0) (.pair (.si .u8) (.us 1 (.pair (.i .i64) (.us 167 .unit)))))))) [(.list 1 y_api_Config true (.pair (.si .i64) (.pair (.i .i64) (.pair (.i .i64) (.pair (.i .i64) (.pair (.i .i64) (.pair (.i .i64) (.pair (.i .u32) (.pair (.i .u32) (.pair (.i .u32) (.pair (.i .u32) (.pair (.i .u32) (.pair (.i .u32) (.pair (.i .i64) (.pair (.i .i64) (.pair (.i .i64) (.pair (.i .i64) (.pair (.i .u64) (.pair (.i .u32) (.pair .b (.pair (.i .i64) (.pair (.i .i64) (.pair (.i .i64) (.pair (.i .i64) (.pair (.i .i64) (.pair (.i .i64) (.pair (.i .i64) .unit)))))))))))))))))))))))))))] (.one .ret [10] (.us 10 (.pair .b (.us 171 .unit))) []))
abbrev S_anneallaw24_ConfigBytes_0 : Type := T ff_anneallaw24_ConfigBytes_0 × TH hf_anneallaw24_ConfigBytes_0
abbrev E_anneallaw24_ConfigBytes_0 : Type := TX X_anneallaw24_ConfigBytes_0
noncomputable def LB_anneallaw24_ConfigBytes_0 : Lps := L0
noncomputable def st_anneallaw24_ConfigBytes_0 : StepT S_anneallaw24_ConfigBytes_0 E_anneallaw24_ConfigBytes_0 := fun R v kn ko =>
  let x0 : List Int := v.1.2.1
  let x1 : Int := v.1.2.2.2.1
  let x2 : Int := (IntKind.wrap .i64 ((2:Int) * x1))
  let x3 : List Int := v.2.1.1
  let x4 : Int := v.1.1
  let x5 : List Int := (List.take (List.length x0) x0)
  let x6 : Int := v.1.2.2.1
  bif (decide (x1 < x6)) then
    bif (decide (((0:Int) ≤ (IntKind.wrap .i64 ((9:Int) + x2))) ∧ ((IntKind.wrap .i64 ((9:Int) + x2)) < (((List.length x0) : Nat) : Int)))) then
      bif (decide (((0:Int) ≤ (IntKind.wrap .i64 ((10:Int) + x2))) ∧ ((IntKind.wrap .i64 ((10:Int) + x2)) < (((List.length x0) : Nat) : Int)))) then
        bif (decide (((0:Int) ≤ x1) ∧ (x1 < (((List.length x3) : Nat) : Int)))) then
          bif ((IntKind.wrap .i64 ((IntKind.wrap .i64 (List.getD x0 (Int.toNat (IntKind.wrap .i64 ((9:Int) + x2))) (0:Int))) + (IntKind.wrap .i64 ((IntKind.wrap .i64 (List.getD x0 (Int.toNat (IntKind.wrap .i64 ((10:Int) + x2))) (0:Int))) * (256:Int))))) != (List.getD x3 (Int.toNat x1) (0:Int))) then
            (ko (Sum.inr ((false, ()), ())))
          else
            (kn ((x4, (x5, (x6, ((IntKind.wrap .i64 (x1 + (1:Int))), ())))), (((List.take (List.length x3) x3), v.2.1.2), ())))
        else
          none
      else
        none
    else
      none
  else
    (ko (Sum.inl ((x4, (x5, (x6, ()))), (((List.take (List.length x3) x3), v.2.1.2), ()))))
noncomputable def ls_anneallaw24_ConfigBytes_0 : St → LTr := (lsum ff_anneallaw24_ConfigBytes_0 hf_anneallaw24_ConfigBytes_0 X_anneallaw24_ConfigBytes_0 Prod.mk id st_anneallaw24_ConfigBytes_0 (hd [] [] [4, 11, 12, 14, 15] 0))
theorem lp_anneallaw24_ConfigBytes_0 : LoopOk PR 0 (lpN f_anneallaw24_ConfigBytes 0) ls_anneallaw24_ConfigBytes_0 := loopT okO_anneallaw24_ConfigBytes mixed (L := LB_anneallaw24_ConfigBytes_0) (d := 1) (bs := []) (ks := [4, 11, 12, 14, 15]) (loopsL (l := []) (by kernel_rfl) trivial) (by kernel_rfl) (inS := Prod.mk) (outS := id) (fun _ _ => rfl) (inX := id) (outX := id) (fun _ => rfl) (fun v R kn ko => by kernel_rfl) (hd_wk [] [] [4, 11, 12, 14, 15] 0)
abbrev ff_anneallaw24_ConfigBytes_1 : Fm := (.us 4 (.pair (.i .u64) (.us 6 (.cst (.ref 0 1 0) (.us 4 (.pair (.si .u8) (.pair (.i .u64) (.pair (.i .i64) (.us 163 .unit)))))))))
abbrev hf_anneallaw24_ConfigBytes_1 : List BF := [(.list 1 y_api_Config true (.pair (.si .i64) (.pair (.i .i64) (.pair (.i .i64) (.pair (.i .i64) (.pair (.i .i64) (.pair (.i .i64) (.pair (.i .u32) (.pair (.i .u32) (.pair (.i .u32) (.pair (.i .u32) (.pair (.i .u32) (.pair (.i .u32) (.pair (.i .i64) (.pair (.i .i64) (.pair (.i .i64) (.pair (.i .i64) (.pair (.i .u64) (.pair (.i .u32) (.pair .b (.pair (.i .i64) (.pair (.i .i64) (.pair (.i .i64) (.pair (.i .i64) (.pair (.i .i64) (.pair (.i .i64) (.pair (.i .i64) .unit)))))))))))))))))))))))))))]
abbrev X_anneallaw24_ConfigBytes_1 : Xs := (.one (.exit 2) [4, 11, 16, 17] (.us 4 (.pair (.i .u64) (.us 6 (.cst (.ref 0 1 0) (.us 4 (.pair (.si .u8) (.pair (.i .u64) (.us 164 .unit)))))))) [(.list 1 y_api_Config true (.pair (.si .i64) (.pair (.i .i64) (.pair (.i .i64) (.pair (.i .i64) (.pair (.i .i64) (.pair (.i .i64) (.pair (.i .u32) (.pair (.i .u32) (.pair (.i .u32) (.pair (.i .u32) (.pair (.i .u32) (.pair (.i .u32) (.pair (.i .i64) (.pair (.i .i64) (.pair (.i .i64) (.pair (.i .i64) (.pair (.i .u64) (.pair (.i .u32) (.pair .b (.pair (.i .i64) (.pair (.i .i64) (.pair (.i .i64) (.pair (.i .i64) (.pair (.i .i64) (.pair (.i .i64) (.pair (.i .i64) .unit)))))))))))))))))))))))))))])
abbrev S_anneallaw24_ConfigBytes_1 : Type := T ff_anneallaw24_ConfigBytes_1 × TH hf_anneallaw24_ConfigBytes_1
abbrev E_anneallaw24_ConfigBytes_1 : Type := TX X_anneallaw24_ConfigBytes_1
noncomputable def LB_anneallaw24_ConfigBytes_1 : Lps := (lpB 10 (.by_ ls_anneallaw24_ConfigBytes_0) L0)
noncomputable def st_anneallaw24_ConfigBytes_1 : StepT S_anneallaw24_ConfigBytes_1 E_anneallaw24_ConfigBytes_1 := fun R v kn ko =>
  let x0 : Int := v.1.1
  let x1 : List Int := v.1.2.1
  let x2 : List Int := (List.take (List.length x1) x1)
  let x3 : Int := v.1.2.2.1
  let x4 : Int := v.1.2.2.2.1
  let x5 : List Int := v.2.1.1
  bif (decide (x4 < (8:Int))) then
    bif (decide (((0:Int) ≤ (IntKind.wrap .i64 ((59:Int) + x4))) ∧ ((IntKind.wrap .i64 ((59:Int) + x4)) < (((List.length x1) : Nat) : Int)))) then
      bif (decide ((0:Int) ≤ (IntKind.wrap .i64 ((8:Int) * x4)))) then
        (kn ((x0, (x2, ((bits .or .u64 x3 (IntKind.wrap .u64 ((IntKind.wrap .u64 (List.getD x1 (Int.toNat (IntKind.wrap .i64 ((59:Int) + x4))) (0:Int))) * ((2:Int) ^ (Min.min (Int.toNat (IntKind.wrap .i64 ((8:Int) * x4))) (64:Nat)))))), ((IntKind.wrap .i64 (x4 + (1:Int))), ())))), (((List.take (List.length x5) x5), v.2.1.2), ())))
      else
        none
    else
      none
  else
    (ko ((x0, (x2, (x3, ()))), (((List.take (List.length x5) x5), v.2.1.2), ())))
noncomputable def ls_anneallaw24_ConfigBytes_1 : St → LTr := (lsum ff_anneallaw24_ConfigBytes_1 hf_anneallaw24_ConfigBytes_1 X_anneallaw24_ConfigBytes_1 Prod.mk id st_anneallaw24_ConfigBytes_1 (hd [] [] [4, 11, 16, 17, 18] 0))
theorem lp_anneallaw24_ConfigBytes_1 : LoopOk PR 0 (lpN f_anneallaw24_ConfigBytes 1) ls_anneallaw24_ConfigBytes_1 := loopT okO_anneallaw24_ConfigBytes mixed (L := LB_anneallaw24_ConfigBytes_1) (d := 1) (bs := []) (ks := [4, 11, 16, 17, 18]) (loopsL (l := []) (by kernel_rfl) trivial) (by kernel_rfl) (inS := Prod.mk) (outS := id) (fun _ _ => rfl) (inX := id) (outX := id) (fun _ => rfl) (fun v R kn ko => by kernel_rfl) (hd_wk [] [] [4, 11, 16, 17, 18] 0)
noncomputable def L_anneallaw24_ConfigBytes : Lps := (lpB 17 (.by_ ls_anneallaw24_ConfigBytes_1) (lpB 10 (.by_ ls_anneallaw24_ConfigBytes_0) L0))
def inn_anneallaw24_ConfigBytes : T fr_anneallaw24_ConfigBytes → TH hr_anneallaw24_ConfigBytes → Bool := (fun z w => z)
def out_anneallaw24_ConfigBytes : Bool → T fr_anneallaw24_ConfigBytes × TH hr_anneallaw24_ConfigBytes := fun r => (r, ())
noncomputable def F_anneallaw24_ConfigBytes (a0 : Int) (a1 : Int) (a2 : Int) (a3 : Int) (a4 : Int) : Option (Bool) :=
  (F_anneallaw24_known).bind fun r0 =>
  bif (!r0) then
    (some false)
  else
    ((F_annealseat_Config a0 a1 a2 a3 a4)).bind fun r1 =>
    let x2 : Int := (((List.length r1.1) : Nat) : Int)
    ((F_config_Put ((List.take (List.length r1.1) r1.1), r1.2))).bind fun r3 =>
    bif (r3.2.1 != (0:Int)) then
      (some false)
    else
      bif ((((List.length r3.1) : Nat) : Int) != (IntKind.wrap .i64 ((76:Int) + (IntKind.wrap .i64 ((2:Int) * x2))))) then
        (some false)
      else
        bif (decide (((0:Int) ≤ (0:Int)) ∧ (((0:Int) ≤ (8:Int)) ∧ ((8:Int) ≤ (((List.length r3.1) : Nat) : Int))))) then
          bif (!((List.map b8 (List.take (8:Nat) (List.take (8:Nat) (List.drop (0:Nat) r3.1)))) == [(65:Int), (78:Int), (78:Int), (69:Int), (65:Int), (76:Int), (49:Int), (0:Int)])) then
            (some false)
          else
            bif (decide (((0:Int) ≤ (8:Int)) ∧ ((8:Int) < (((List.length r3.1) : Nat) : Int)))) then
              bif ((IntKind.wrap .i64 (List.getD r3.1 (8:Nat) (0:Int))) != x2) then
                (some false)
              else
                ((lim st_anneallaw24_ConfigBytes_0 ((a4, ((List.take (List.length r3.1) r3.1), (x2, ((0:Int), ())))), (((List.take (List.length r1.1) r1.1), r1.2), ())))).bind fun r4 =>
                els (fun l5 =>
                  let x7 : List Int := l5.1.2.1
                  let x8 : Int := l5.1.2.2.1
                  let x9 : Nat := (Int.toNat (IntKind.wrap .i64 ((9:Int) + (IntKind.wrap .i64 ((2:Int) * x8)))))
                  let x10 : Nat := ((Int.toNat (((List.length x7) : Nat) : Int)) - x9)
                  let x11 : List Int := l5.2.1.1
                  bif (decide (((0:Int) ≤ (IntKind.wrap .i64 ((9:Int) + (IntKind.wrap .i64 ((2:Int) * x8))))) ∧ (((IntKind.wrap .i64 ((9:Int) + (IntKind.wrap .i64 ((2:Int) * x8)))) ≤ (((List.length x7) : Nat) : Int)) ∧ ((((List.length x7) : Nat) : Int) ≤ (((List.length x7) : Nat) : Int))))) then
                    ((lim st_anneallaw24_ConfigBytes_1 ((l5.1.1, ((List.take x10 (List.take x10 (List.drop x9 x7))), ((0:Int), ((0:Int), ())))), (((List.take (List.length x11) x11), l5.2.1.2), ())))).bind fun r12 =>
                    let x13 : List Int := r12.1.2.1
                    let x14 : Int := r12.2.1.2.2.2.2.2.2.1
                    bif (decide (((0:Int) ≤ (0:Int)) ∧ ((0:Int) < (((List.length x13) : Nat) : Int)))) then
                      bif ((IntKind.wrap .i64 (List.getD x13 (0:Nat) (0:Int))) == r12.2.1.2.1) then
                        bif (decide (((0:Int) ≤ (4:Int)) ∧ ((4:Int) < (((List.length x13) : Nat) : Int)))) then
                          bif ((IntKind.wrap .i64 (List.getD x13 (4:Nat) (0:Int))) == r12.2.1.2.2.2.2.2.1) then
                            bif (decide (((0:Int) ≤ (5:Int)) ∧ ((5:Int) < (((List.length x13) : Nat) : Int)))) then
                              bif (((List.getD x13 (5:Nat) (0:Int)) == (1:Int)) == r12.2.1.2.2.2.2.2.2.2.2.2.2.2.2.2.2.2.2.2.2.1) then
                                bif (decide (((0:Int) ≤ (6:Int)) ∧ ((6:Int) < (((List.length x13) : Nat) : Int)))) then
                                  bif ((List.getD x13 (6:Nat) (0:Int)) == (IntKind.wrap .u8 x14)) then
                                    bif (decide (((0:Int) ≤ (9:Int)) ∧ ((9:Int) < (((List.length x13) : Nat) : Int)))) then
                                      bif ((List.getD x13 (9:Nat) (0:Int)) == (IntKind.wrap .u8 (x14 / (16777216:Int)))) then
                                        bif (decide (((0:Int) ≤ (50:Int)) ∧ ((50:Int) < (((List.length x13) : Nat) : Int)))) then
                                          bif ((IntKind.wrap .i64 (List.getD x13 (50:Nat) (0:Int))) == r12.2.1.2.2.2.2.2.2.2.2.2.2.2.2.2.2.1) then
                                            bif (decide (((0:Int) ≤ (54:Int)) ∧ ((54:Int) < (((List.length x13) : Nat) : Int)))) then
                                              bif ((IntKind.wrap .i64 (List.getD x13 (54:Nat) (0:Int))) == r12.2.1.2.2.2.2.2.2.2.2.2.2.2.2.2.2.2.2.2.2.2.1) then
                                                bif (decide (((0:Int) ≤ (58:Int)) ∧ ((58:Int) < (((List.length x13) : Nat) : Int)))) then
                                                  bif ((IntKind.wrap .i64 (List.getD x13 (58:Nat) (0:Int))) == r12.2.1.2.2.2.2.2.2.2.2.2.2.2.2.2.2.2.2.2.2.2.2.2.2.2.1) then
                                                    (some (r12.1.2.2.1 == r12.1.1))
                                                  else
                                                    (some false)
                                                else
                                                  none
                                              else
                                                (some false)
                                            else
                                              none
                                          else
                                            (some false)
                                        else
                                          none
                                      else
                                        (some false)
                                    else
                                      none
                                  else
                                    (some false)
                                else
                                  none
                              else
                                (some false)
                            else
                              none
                          else
                            (some false)
                        else
                          none
                      else
                        (some false)
                    else
                      none
                  else
                    none) (fun r6 =>
                  (some r6.1.1)) r4
            else
              none
        else
          none
noncomputable def G_anneallaw24_ConfigBytes : T fa_anneallaw24_ConfigBytes → TH ha_anneallaw24_ConfigBytes → Option (Bool) := fun x y => F_anneallaw24_ConfigBytes x.1 x.2.1 x.2.2.1 x.2.2.2.1 x.2.2.2.2.1
noncomputable def c_anneallaw24_ConfigBytes : Orc := ent i_anneallaw24_ConfigBytes [] 0 (sp fa_anneallaw24_ConfigBytes ha_anneallaw24_ConfigBytes fr_anneallaw24_ConfigBytes hr_anneallaw24_ConfigBytes G_anneallaw24_ConfigBytes out_anneallaw24_ConfigBytes)
theorem ok_anneallaw24_ConfigBytes : OrcOk PR c_anneallaw24_ConfigBytes := fnT okO_anneallaw24_ConfigBytes mixed p_anneallaw24_ConfigBytes (by kernel_rfl) (by kernel_rfl) (L := L_anneallaw24_ConfigBytes) (kp := false) (by kernel_rfl) (inn := inn_anneallaw24_ConfigBytes) (out := out_anneallaw24_ConfigBytes) (fun _ _ => rfl) (loopsL (l := [((lpN f_anneallaw24_ConfigBytes 0), ls_anneallaw24_ConfigBytes_0), ((lpN f_anneallaw24_ConfigBytes 1), ls_anneallaw24_ConfigBytes_1)]) (by kernel_rfl) ⟨lp_anneallaw24_ConfigBytes_0, ⟨lp_anneallaw24_ConfigBytes_1, trivial⟩⟩) (fun x y => by kernel_rfl)
end Go.Proofs.Ytcpicekmnkjceaa.VI

namespace Go.Proofs.Ytcpicekmnkjceaa.VI
set_option linter.unusedVariables false
set_option linter.unusedSimpArgs false
set_option linter.unusedSimpArgs false
set_option linter.unusedVariables false
set_option maxRecDepth 100000
set_option maxHeartbeats 4000000
theorem getD_drop (l : List Int) (n j : Nat) : (l.drop n).getD j 0 = l.getD (n + j) 0 := by
  simp [List.getD_eq_getElem?_getD, List.getElem?_drop]
theorem orB {xs : List Int} (h : byt xs) {i : Nat} (hi : i < 8) : bits .or .u64 (leN i xs) (IntKind.u64.wrap (IntKind.u64.wrap (xs.getD i 0) * 2 ^ (8 * i))) = leN (i + 1) xs := by
  have hx := h i
  have hb := leN_bd h i
  have hb2 := leN_bd h (i + 1)
  have hp := p64 (k := i + 1) (by omega)
  simp only [leN] at hb2
  have hp0 := p8pos i
  have h2 : 0 ≤ xs.getD i 0 * 2 ^ (8 * i) := Int.mul_nonneg hx.1 (by omega)
  have w4 : IntKind.u64.wrap (xs.getD i 0) = xs.getD i 0 := wu64 (by omega)
  have w5 : IntKind.u64.wrap (xs.getD i 0 * 2 ^ (8 * i)) = xs.getD i 0 * 2 ^ (8 * i) := wu64 (by omega)
  rw [w4, w5, or_comm64, or_join64 _ _ (8 * i) h2 (by omega) hb.1 hb.2 (by omega) (Int.mul_emod_left _ _)]
  simp only [leN]; omega
theorem bytes {a b c d seed : Int} (ha : 0 ≤ a ∧ a ≤ 255) (hb : 0 ≤ b ∧ b ≤ 255) (hc : 0 ≤ c ∧ c ≤ 255) (hd : 0 ≤ d ∧ d ≤ 255) (hs : 0 ≤ seed ∧ seed ≤ 18446744073709551615) :
    F_anneallaw24_ConfigBytes a b c d seed = some true := by
  have hr : right (cfg a b c d seed) := cfg_right ha hb hc hd
  have hW : cW (cfg a b c d seed) := cfg_W (by omega)
  have hsd : (cfg a b c d seed).seed = seed := rfl
  have hB : (cfg a b c d seed).batch ≤ 4 := by simp only [cfg, CfgT.batch]; omega
  unfold F_anneallaw24_ConfigBytes
  rw [cfg_eq ha hb hc hd]
  generalize cfg a b c d seed = C at hr hW hsd hB ⊢
  simp only [known_eq, Option.bind_some, Bool.not_true, cond_false, List.take_length, eta2]
  rw [cput_eq hW.1 hW.2, if_pos hr]
  have hE := enc_byt hr
  have hel : (enc_ C).length = 76 + 2 * C.1.length := enc_len C
  have hw : C.1.length ≤ 65 := hr.1.2.1
  have htk : (enc_ C).take 8 = [65, 78, 78, 69, 65, 76, 49, 0] := (isE_len (b := enc_ C) (c := C) ⟨hr, rfl⟩).2.1
  have hnw : IntKind.i64.wrap ((enc_ C).getD 8 0) = (C.1.length : Int) := by
    have h1 := (nW_bd hE).2
    rw [enc_nW] at h1
    rw [← h1]; exact wi64 (by simp only [CfgT.w]; omega)
  have htl : (enc_ C).drop (9 + 2 * C.1.length) = tail C := enc_tail C
  have hwi : ∀ i, i < C.1.length → IntKind.i64.wrap (IntKind.i64.wrap ((enc_ C).getD (9 + 2 * i) 0) + IntKind.i64.wrap (IntKind.i64.wrap ((enc_ C).getD (10 + 2 * i) 0) * 256)) = C.1.getD i 0 := fun i hi => by
    obtain ⟨r, h1⟩ := wbs_drop C.w (tail C) (i := i) (n := C.w.length) hi
    have h2 : (enc_ C).drop (9 + 2 * i) = bts 2 (C.1.getD i 0) ++ r := (enc_drop C).trans h1
    have g1 : (enc_ C).getD (9 + 2 * i) 0 = C.1.getD i 0 / 2 ^ (8 * 0) % 256 := by
      have := getD_drop (enc_ C) (9 + 2 * i) 0
      rw [h2] at this; exact this.symm
    have g2 : (enc_ C).getD (10 + 2 * i) 0 = C.1.getD i 0 / 2 ^ (8 * 1) % 256 := by
      have := getD_drop (enc_ C) (9 + 2 * i) 1
      rw [h2, show 9 + 2 * i + 1 = 10 + 2 * i by omega] at this; exact this.symm
    rw [g1, g2]
    have hv : 1 ≤ C.1.getD i 0 ∧ C.1.getD i 0 ≤ 4096 := hr.1.2.2 i hi
    simp only [Nat.reduceMul, Int.reducePow]
    rw [wi64 (n := _ % 256) (by omega), wi64 (n := C.1.getD i 0 / 256 % 256) (by omega), wi64 (n := _ * 256) (by omega), wi64 (by omega)]
    omega
  have hq := byt_drop hE (9 + 2 * C.1.length)
  rw [htl] at hq
  have hb8 : List.map b8 [65, 78, 78, 69, 65, 76, 49, 0] = [65, 78, 78, 69, 65, 76, 49, 0] := by decide
  generalize enc_ C = E at hE hel htk hnw htl hwi ⊢
  have c0 : ((0 : Int) ≤ 0 ∧ (0 : Int) ≤ 8 ∧ (8 : Int) ≤ (E.length : Int)) = True := by simp; omega
  have c1 : ((0 : Int) ≤ 8 ∧ (8 : Int) < (E.length : Int)) = True := by simp; omega
  have w0 : IntKind.i64.wrap (76 + IntKind.i64.wrap (2 * (C.1.length : Int))) = (E.length : Int) := by rw [wi64 (n := 2 * _) (by omega), wi64 (by omega)]; omega
  have h8a : ((8 : Int) ≤ (E.length : Int)) = True := by simp; omega
  have h8b : ((8 : Int) < (E.length : Int)) = True := by simp; omega
  have key : lim st_anneallaw24_ConfigBytes_0 ((seed, (E, ((C.1.length : Int), (0, ())))), (C, ())) = some (Sum.inl ((seed, (E, ((C.1.length : Int), ()))), (C, ()))) := by
    have := lim_seq (st := st_anneallaw24_ConfigBytes_0) (fun i => ((seed, (E, ((C.1.length : Int), ((i : Int), ())))), (C, ()))) (b := Sum.inl ((seed, (E, ((C.1.length : Int), ()))), (C, ()))) C.1.length (fun i hi R kn ko => by
      have w1 : IntKind.i64.wrap ((i : Int) + 1) = ((i + 1 : Nat) : Int) := by rw [wi64 (by omega)]; omega
      have w2 : IntKind.i64.wrap (9 + IntKind.i64.wrap (2 * (i : Int))) = ((9 + 2 * i : Nat) : Int) := by rw [wi64 (n := 2 * (i : Int)) (by omega), wi64 (by omega)]; omega
      have w3 : IntKind.i64.wrap (10 + IntKind.i64.wrap (2 * (i : Int))) = ((10 + 2 * i : Nat) : Int) := by rw [wi64 (n := 2 * (i : Int)) (by omega), wi64 (by omega)]; omega
      simp only [st_anneallaw24_ConfigBytes_0, ltI hi, w2, w3, ltI (show 9 + 2 * i < E.length by omega), ltI (show 10 + 2 * i < E.length by omega), natnn, and_self, decide_true, cond_true, List.take_length, Int.toNat_natCast, hwi i hi, bne_self_eq_false, cond_false, w1, eta2]) (fun R kn ko => by
      simp only [st_anneallaw24_ConfigBytes_0, ltI', decide_false, cond_false, List.take_length, eta2])
    simpa using this
  have hql : (tail C).length = 67 := by rw [← htl]; simp; omega
  have key2 : lim st_anneallaw24_ConfigBytes_1 ((seed, (tail C, (0, (0, ())))), (C, ())) = some ((seed, (tail C, (leN 8 ((tail C).drop 59), ()))), (C, ())) := by
    have := lim_seq (st := st_anneallaw24_ConfigBytes_1) (fun i => ((seed, (tail C, (leN i ((tail C).drop 59), ((i : Int), ())))), (C, ()))) (b := ((seed, (tail C, (leN 8 ((tail C).drop 59), ()))), (C, ()))) 8 (fun i hi R kn ko => by
      have w1 : IntKind.i64.wrap ((i : Int) + 1) = ((i + 1 : Nat) : Int) := by rw [wi64 (by omega)]; omega
      have w2 : IntKind.i64.wrap (8 * (i : Int)) = ((8 * i : Nat) : Int) := by rw [wi64 (by omega)]; omega
      have w3 : IntKind.i64.wrap (59 + (i : Int)) = ((59 + i : Nat) : Int) := by rw [wi64 (by omega)]; omega
      have hm : Min.min (8 * i) 64 = 8 * i := by omega
      have h8 : ((i : Int) < 8) = True := by simp; omega
      have hg : (tail C).getD (59 + i) 0 = ((tail C).drop 59).getD i 0 := (getD_drop _ _ _).symm
      simp only [st_anneallaw24_ConfigBytes_1, h8, w2, w3, ltI (show 59 + i < (tail C).length by omega), natnn, and_self, decide_true, cond_true, List.take_length, Int.toNat_natCast, hm, hg, orB (byt_drop hq 59) hi, w1, eta2]) (fun R kn ko => by
      have h8 : (((8 : Nat) : Int) < 8) = False := by simp
      simp only [st_anneallaw24_ConfigBytes_1, h8, decide_false, cond_false, List.take_length, eta2])
    simp only [leN, Int.natCast_zero] at this
    exact this
  have w9 : IntKind.i64.wrap (9 + IntKind.i64.wrap (2 * (C.1.length : Int))) = ((9 + 2 * C.1.length : Nat) : Int) := by rw [wi64 (n := 2 * _) (by omega), wi64 (by omega)]; omega
  have c3 : ((0 : Int) ≤ ((9 + 2 * C.1.length : Nat) : Int) ∧ ((9 + 2 * C.1.length : Nat) : Int) ≤ (E.length : Int) ∧ (E.length : Int) ≤ (E.length : Int)) = True := by simp; omega
  have hd : List.take (E.length - (9 + 2 * C.1.length)) (E.drop (9 + 2 * C.1.length)) = tail C := by rw [htl]; exact List.take_of_length_le (by omega)
  have k67 : ((67 : Nat) : Int) = 67 := rfl
  simp only [Option.bind_some, w0, bne_self_eq_false, cond_false, c0, c1, decide_true, cond_true, List.take_take, Nat.min_self, List.drop_zero, htk, hb8, BEq.rfl, Bool.not_true, hnw, key, els, w9, c3, Int.toNat_natCast, hd, List.take_length, eta2, key2, hql, k67, Int.reduceLE, Int.reduceLT, and_self]
  obtain ⟨w, f, act, loss, opt, sched, rate, mu, beta, eps, decay, clip, warm, total, batch, accum, seed', drop, chance, log, mi, ma, bk, gr, itv, save, un⟩ := C
  obtain ⟨_, _, ⟨k1, k2, k3, k4, k5⟩, _, ⟨q1, q2, q3, q4, q5, q6, q7, q8, q9, q10, q11, q12⟩, _⟩ := hr
  obtain ⟨⟨u1, u2, u3, u4, u5, u6⟩, s1, s2⟩ := hW
  simp only [CfgT.f, CfgT.act, CfgT.loss, CfgT.opt, CfgT.sched, CfgT.rate, CfgT.mu, CfgT.beta, CfgT.eps, CfgT.decay, CfgT.clip, CfgT.warm, CfgT.total, CfgT.batch, CfgT.accum, CfgT.seed, CfgT.drop, CfgT.chance, CfgT.log, CfgT.mi, CfgT.ma, CfgT.bk, CfgT.gr, CfgT.itv, CfgT.save, CfgT.w] at k1 k2 k3 k4 k5 q1 q2 q3 q4 q5 q6 q7 q8 q9 q10 q11 q12 u1 s1 hsd hB
  generalize hq_ : tail (w, f, act, loss, opt, sched, rate, mu, beta, eps, decay, clip, warm, total, batch, accum, seed', drop, chance, log, mi, ma, bk, gr, itv, save, un) = q
  have t0 : q.getD 0 0 = f := by rw [← hq_]; rfl
  have t4 : q.getD 4 0 = sched := by rw [← hq_]; rfl
  have t5 : q.getD 5 0 = flagN chance := by rw [← hq_]; rfl
  have t6 : q.getD 6 0 = rate / 2 ^ (8 * 0) % 256 := by rw [← hq_]; rfl
  have t9 : q.getD 9 0 = rate / 2 ^ (8 * 3) % 256 := by rw [← hq_]; rfl
  have t50 : q.getD 50 0 = batch / 2 ^ (8 * 0) % 256 := by rw [← hq_]; rfl
  have t54 : q.getD 54 0 = log := by rw [← hq_]; rfl
  have t58 : q.getD 58 0 = gr := by rw [← hq_]; rfl
  have t59 : leN 8 (q.drop 59) = seed' := by
    rw [← hq_]
    exact e8 (v := seed') s1
  have a0 : (IntKind.i64.wrap f == f) = true := by rw [wi64 (by omega)]; simp
  have a4 : (IntKind.i64.wrap sched == sched) = true := by rw [wi64 (by omega)]; simp
  have a5 : ((flagN chance == 1) == chance) = true := by cases chance <;> rfl
  have a6 : (rate / 2 ^ (8 * 0) % 256 == IntKind.u8.wrap rate) = true := by rw [wu8_eq]; simp
  have a9 : (rate / 2 ^ (8 * 3) % 256 == IntKind.u8.wrap (rate / 16777216)) = true := by rw [wu8_eq]; simp
  have a50 : (IntKind.i64.wrap (batch / 2 ^ (8 * 0) % 256) == batch) = true := by
    simp only [Nat.reduceMul, Int.reducePow]
    rw [wi64 (by omega)]; simp; omega
  have a54 : (IntKind.i64.wrap log == log) = true := by rw [wi64 (by omega)]; simp
  have a58 : (IntKind.i64.wrap gr == gr) = true := by rw [wi64 (by omega)]; simp
  simp only [t0, t4, t5, t6, t9, t50, t54, t58, t59, a0, a4, a5, a6, a9, a50, a54, a58, cond_true, hsd, BEq.rfl, h8a, h8b, and_self, decide_true]
theorem callConfigBytes : ∀ l, args [.i .u8, .i .u8, .i .u8, .i .u8, .i .u64] l → oks l → CallOk PR i_anneallaw24_ConfigBytes l [] fun r _ => r = .b true :=
  rowT (fa := fa_anneallaw24_ConfigBytes) (F := G_anneallaw24_ConfigBytes) rfl rfl ok_anneallaw24_ConfigBytes (enters p_anneallaw24_ConfigBytes (by kernel_rfl) (by kernel_rfl)) rfl fun x hx => bytes hx.1 hx.2.1 hx.2.2.1 hx.2.2.2.1 hx.2.2.2.2.1
end Go.Proofs.Ytcpicekmnkjceaa.VI

namespace Go.Proofs.Ytcpicekmnkjceaa.VI
set_option linter.unusedVariables false
set_option linter.unusedSimpArgs false
open Go.ChangeShapes Go.WideShapes Go.RowKit Go.WideElems Ytcpicekmnkjceaa
set_option maxRecDepth 100000
theorem laid : laidOutB Try.prog = true := by kernel_rfl
theorem own : ownKnob Try.prog.godebug = none := by kernel_rfl
theorem lifted (os : Os) (started : os.Started) (H : Type) (enc : TypeId × Value → H) :
    ReturnsInHanded {} Try.checked os 20 .any (Rows.configBytesSpec.pre6 enc Try.prog Try.f20 Rows.configBytesRow.domain false) (Rows.configBytesSpec.post enc Try.prog Try.f20 false true false false) :=
  lift_args (C := Try.checked) own started (by kernel_rfl) Try.func20
    (ChangeSpec.witness6 (enc := enc) (C := Try.checked) false ⟨#[], #[.int .u8 0, .int .u8 0, .int .u8 0, .int .u8 0, .int .u64 0], []⟩ 8 (by kernel_rfl) (by kernel_rfl) (by kernel_rfl) (by kernel_rfl))
    laid Try.underlying4 rfl (by kernel_rfl) rfl (fun ds hd => match ds, hd with
    | [_, _, _, _, _], _ => rfl) (d := 6) (by kernel_rfl) (Fs := [.i .u8, .i .u8, .i .u8, .i .u8, .i .u64]) (by kernel_rfl) callConfigBytes
theorem over : Rows.configBytesRow.holds Try.pinned (OpenSpec.ofChange Rows.configBytesSpec) :=
  OpenClaim.holds_of_wide 20 Try.f20 rfl rfl rfl rfl rfl rfl rfl ⟨rfl, rfl, rfl, rfl, rfl⟩ rfl rfl rfl rfl rfl (by kernel_rfl) Try.func20 (by kernel_rfl)
    (of_decide_eq_true (by kernel_rfl)) (by unfold Func.isWrapper; first | (rw [if_pos (by decide +kernel)]; kernel_rfl) | (rw [if_neg (by decide +kernel)]; exact ⟨rfl, rfl⟩))
    (fun os started H enc _ => lifted os started H enc)
end Go.Proofs.Ytcpicekmnkjceaa.VI
