import Derived.Test.YtcpicekmnkjceaaT205f77b3
import Derived.Test.YtcpicekmnkjceaaRows
import Derived.WalkKit
import Derived.ProofKit
namespace Go.Proofs.Ytcpicekmnkjceaa.VI
set_option linter.unusedVariables false
set_option linter.unusedSimpArgs false
set_option maxRecDepth 100000
set_option linter.unusedSimpArgs false
set_option linter.unusedVariables false
noncomputable def O_anneallaw24_ConfigEdges : Orc := (orm c_anneallaw24_known (orm c_annealseat_Config c_config_Check))
theorem okO_anneallaw24_ConfigEdges : OrcOk PR O_anneallaw24_ConfigEdges := (orm_ok ok_anneallaw24_known (orm_ok ok_annealseat_Config ok_config_Check))
abbrev fa_anneallaw24_ConfigEdges : Fm := (.pair (.i .u8) (.pair (.i .u8) .unit))
abbrev ha_anneallaw24_ConfigEdges : List BF := []
abbrev fr_anneallaw24_ConfigEdges : Fm := .b
abbrev hr_anneallaw24_ConfigEdges : List BF := []
abbrev ff_anneallaw24_ConfigEdges_0 : Fm := (.us 5 (.cst (.ref 0 1 0) (.us 1 (.pair .b (.pair (.i .i64) (.us 70 .unit))))))
abbrev hf_anneallaw24_ConfigEdges_0 : List BF := [(.list 1 y_api_Config true (.pair (.own 1 1 0 1) (.pair (.i .i64) (.pair (.i .i64) (.pair (.i .i64) (.pair (.i .i64) (.pair (.i .i64) (.pair (.i .u32) (.pair (.i .u32) (.pair (.i .u32) (.pair (.i .u32) (.pair (.i .u32) (.pair (.i .u32) (.pair (.i .i64) (.pair (.i .i64) (.pair (.i .i64) (.pair (.i .i64) (.pair (.i .u64) (.pair (.i .u32) (.pair .b (.pair (.i .i64) (.pair (.i .i64) (.pair (.i .i64) (.pair (.i .i64) (.pair (.i .i64) (.pair (.i .i64) (.pair (.i .i64) .unit))))))))))))))))))))))))))), (.ints 1 y_int true .i64)]
abbrev X_anneallaw24_ConfigEdges_0 : Xs := (.one (.exit 1) [5, 7] (.us 5 (.cst (.ref 0 1 0) (.us 1 (.pair .b (.us 71 .unit))))) [(.list 1 y_api_Config true (.pair (.own 1 1 0 1) (.pair (.i .i64) (.pair (.i .i64) (.pair (.i .i64) (.pair (.i .i64) (.pair (.i .i64) (.pair (.i .u32) (.pair (.i .u32) (.pair (.i .u32) (.pair (.i .u32) (.pair (.i .u32) (.pair (.i .u32) (.pair (.i .i64) (.pair (.i .i64) (.pair (.i .i64) (.pair (.i .i64) (.pair (.i .u64) (.pair (.i .u32) (.pair .b (.pair (.i .i64) (.pair (.i .i64) (.pair (.i .i64) (.pair (.i .i64) (.pair (.i .i64) (.pair (.i .i64) (.pair (.i .i64) .unit))))))))))))))))))))))))))), (.ints 1 y_int true .i64)])
abbrev S_anneallaw24_ConfigEdges_0 : Type := T ff_anneallaw24_ConfigEdges_0 × TH hf_anneallaw24_ConfigEdges_0
abbrev E_anneallaw24_ConfigEdges_0 : Type := TX X_anneallaw24_ConfigEdges_0
noncomputable def LB_anneallaw24_ConfigEdges_0 : Lps := L0
noncomputable def st_anneallaw24_ConfigEdges_0 : StepT S_anneallaw24_ConfigEdges_0 E_anneallaw24_ConfigEdges_0 := fun R v kn ko =>
  let x0 : Bool := v.1.1
  let x1 : Int := v.1.2.1
  bif (decide (x1 < ((v.2.1.1 : Nat) : Int))) then
    bif (decide (((0:Int) ≤ x1) ∧ (x1 < ((v.2.1.1 : Nat) : Int)))) then
      bif (decide (((0:Nat) + ((Int.toNat x1) * (1:Nat))) < (List.length v.2.2.1))) then
        (kn ((x0, ((IntKind.wrap .i64 (x1 + (1:Int))), ())), (v.2.1, ((List.set v.2.2.1 ((0:Nat) + ((Int.toNat x1) * (1:Nat))) (1:Int)), ()))))
      else
        none
    else
      none
  else
    (ko ((x0, ()), v.2))
noncomputable def ls_anneallaw24_ConfigEdges_0 : St → LTr := (lsum ff_anneallaw24_ConfigEdges_0 hf_anneallaw24_ConfigEdges_0 X_anneallaw24_ConfigEdges_0 Prod.mk id st_anneallaw24_ConfigEdges_0 (hd [] [] [5, 7, 8] 0))
theorem lp_anneallaw24_ConfigEdges_0 : LoopOk PR 0 (lpN f_anneallaw24_ConfigEdges 0) ls_anneallaw24_ConfigEdges_0 := loopT okO_anneallaw24_ConfigEdges mixed (L := LB_anneallaw24_ConfigEdges_0) (d := 1) (bs := []) (ks := [5, 7, 8]) (loopsL (l := []) (by kernel_rfl) trivial) (by kernel_rfl) (inS := Prod.mk) (outS := id) (fun _ _ => rfl) (inX := id) (outX := id) (fun _ => rfl) (fun v R kn ko => by kernel_rfl) (hd_wk [] [] [5, 7, 8] 0)
noncomputable def L_anneallaw24_ConfigEdges : Lps := (lpB 12 (.by_ ls_anneallaw24_ConfigEdges_0) L0)
def inn_anneallaw24_ConfigEdges : T fr_anneallaw24_ConfigEdges → TH hr_anneallaw24_ConfigEdges → Bool := (fun z w => z)
def out_anneallaw24_ConfigEdges : Bool → T fr_anneallaw24_ConfigEdges × TH hr_anneallaw24_ConfigEdges := fun r => (r, ())
noncomputable def F_anneallaw24_ConfigEdges (a0 : Int) (a1 : Int) : Option (Bool) :=
  let x0 : Int := (IntKind.wrap .i64 ((IntKind.wrap .i64 (Int.tmod a1 (3:Int))) - (1:Int)))
  let x1 : Nat := (Int.toNat (IntKind.wrap .i64 ((65:Int) + x0)))
  let x2 : List Int := [(2:Int), (2:Int)]
  (F_anneallaw24_known).bind fun r3 =>
  bif (!r3) then
    (some false)
  else
    bif ((Int.tmod a0 (8:Int)) == (0:Int)) then
      bif (decide (((0:Int) ≤ (IntKind.wrap .i64 ((65:Int) + x0))) ∧ ((IntKind.wrap .i64 ((65:Int) + x0)) ≤ (1073741824:Int)))) then
        ((lim st_anneallaw24_ConfigEdges_0 (((decide (x0 ≤ (0:Int))), ((0:Int), ())), ((x1, ((0:Int), ((0:Int), ((0:Int), ((0:Int), ((0:Int), ((1008981770:Int), ((0:Int), ((1065336439:Int), ((841731191:Int), ((0:Int), ((1065353216:Int), ((0:Int), ((2:Int), ((1:Int), ((1:Int), ((1:Int), ((0:Int), (false, ((0:Int), ((0:Int), ((4:Int), ((1:Int), ((1:Int), ((2:Int), ((0:Int), ())))))))))))))))))))))))))), ((List.replicate x1 (0:Int)), ()))))).bind fun r4 =>
        ((F_config_Check ((List.take r4.2.1.1 (List.drop (0:Nat) r4.2.2.1)), r4.2.1.2))).bind fun r5 =>
        (some ((r5 == (0:Int)) == r4.1.1))
      else
        none
    else
      bif ((Int.tmod a0 (8:Int)) == (1:Int)) then
        ((F_config_Check ([(IntKind.wrap .i64 ((4096:Int) + x0)), (1:Int)], ((0:Int), ((0:Int), ((0:Int), ((0:Int), ((0:Int), ((1008981770:Int), ((0:Int), ((1065336439:Int), ((841731191:Int), ((0:Int), ((1065353216:Int), ((0:Int), ((2:Int), ((1:Int), ((1:Int), ((1:Int), ((0:Int), (false, ((0:Int), ((0:Int), ((4:Int), ((1:Int), ((1:Int), ((2:Int), ((0:Int), ())))))))))))))))))))))))))))).bind fun r6 =>
        (some ((r6 == (0:Int)) == (decide (x0 ≤ (0:Int)))))
      else
        bif ((Int.tmod a0 (8:Int)) == (2:Int)) then
          ((F_config_Check (x2, ((0:Int), ((0:Int), ((0:Int), ((0:Int), ((0:Int), ((1008981770:Int), ((0:Int), ((1065336439:Int), ((841731191:Int), ((0:Int), ((1065353216:Int), ((0:Int), ((2:Int), ((IntKind.wrap .i64 ((256:Int) + x0)), ((1:Int), ((1:Int), ((0:Int), (false, ((0:Int), ((0:Int), ((4:Int), ((1:Int), ((1:Int), ((2:Int), ((0:Int), ())))))))))))))))))))))))))))).bind fun r7 =>
          (some ((r7 == (0:Int)) == (decide (x0 ≤ (0:Int)))))
        else
          bif ((Int.tmod a0 (8:Int)) == (3:Int)) then
            ((F_config_Check (x2, ((0:Int), ((0:Int), ((0:Int), ((0:Int), ((0:Int), ((1008981770:Int), ((0:Int), ((1065336439:Int), ((841731191:Int), ((0:Int), ((1065353216:Int), ((0:Int), ((2:Int), ((1:Int), ((IntKind.wrap .i64 ((16:Int) + x0)), ((1:Int), ((0:Int), (false, ((0:Int), ((0:Int), ((4:Int), ((1:Int), ((1:Int), ((2:Int), ((0:Int), ())))))))))))))))))))))))))))).bind fun r8 =>
            (some ((r8 == (0:Int)) == (decide (x0 ≤ (0:Int)))))
          else
            bif ((Int.tmod a0 (8:Int)) == (4:Int)) then
              ((F_config_Check (x2, ((0:Int), ((0:Int), ((0:Int), ((0:Int), ((0:Int), ((1008981770:Int), ((0:Int), ((1065336439:Int), ((841731191:Int), ((0:Int), ((1065353216:Int), ((0:Int), ((2:Int), ((1:Int), ((1:Int), ((1:Int), ((0:Int), (false, ((0:Int), ((0:Int), ((IntKind.wrap .i64 ((30:Int) + x0)), ((1:Int), ((1:Int), ((2:Int), ((0:Int), ())))))))))))))))))))))))))))).bind fun r9 =>
              (some ((r9 == (0:Int)) == (decide (x0 ≤ (0:Int)))))
            else
              bif ((Int.tmod a0 (8:Int)) == (5:Int)) then
                ((F_config_Check (x2, ((0:Int), ((0:Int), ((0:Int), ((0:Int), ((0:Int), ((1008981770:Int), ((0:Int), ((1065336439:Int), ((841731191:Int), ((0:Int), ((1065353216:Int), ((0:Int), ((2:Int), ((1:Int), ((1:Int), ((1:Int), ((IntKind.wrap .u32 (IntKind.wrap .i64 ((2147483647:Int) + x0))), (false, ((0:Int), ((0:Int), ((4:Int), ((1:Int), ((1:Int), ((2:Int), ((0:Int), ())))))))))))))))))))))))))))).bind fun r10 =>
                (some ((r10 == (0:Int)) == (decide (x0 ≤ (0:Int)))))
              else
                bif ((Int.tmod a0 (8:Int)) == (6:Int)) then
                  ((F_config_Check (x2, ((0:Int), ((0:Int), ((0:Int), ((0:Int), ((0:Int), ((1008981770:Int), ((IntKind.wrap .u32 (IntKind.wrap .i64 ((1065353215:Int) + x0))), ((1065336439:Int), ((841731191:Int), ((0:Int), ((1065353216:Int), ((0:Int), ((2:Int), ((1:Int), ((1:Int), ((1:Int), ((0:Int), (false, ((0:Int), ((0:Int), ((4:Int), ((1:Int), ((1:Int), ((2:Int), ((0:Int), ())))))))))))))))))))))))))))).bind fun r11 =>
                  (some ((r11 == (0:Int)) == (decide (x0 ≤ (0:Int)))))
                else
                  ((F_config_Check ([(IntKind.wrap .i64 ((255:Int) + x0)), (256:Int)], ((0:Int), ((0:Int), ((0:Int), ((0:Int), ((0:Int), ((1008981770:Int), ((0:Int), ((1065336439:Int), ((841731191:Int), ((0:Int), ((1065353216:Int), ((0:Int), ((2:Int), ((1:Int), ((1:Int), ((1:Int), ((0:Int), (false, ((0:Int), ((0:Int), ((4:Int), ((1:Int), ((1:Int), ((2:Int), ((0:Int), ())))))))))))))))))))))))))))).bind fun r12 =>
                  (some ((r12 == (0:Int)) == (decide (x0 ≤ (0:Int)))))
noncomputable def G_anneallaw24_ConfigEdges : T fa_anneallaw24_ConfigEdges → TH ha_anneallaw24_ConfigEdges → Option (Bool) := fun x y => F_anneallaw24_ConfigEdges x.1 x.2.1
noncomputable def c_anneallaw24_ConfigEdges : Orc := ent i_anneallaw24_ConfigEdges [] 0 (sp fa_anneallaw24_ConfigEdges ha_anneallaw24_ConfigEdges fr_anneallaw24_ConfigEdges hr_anneallaw24_ConfigEdges G_anneallaw24_ConfigEdges out_anneallaw24_ConfigEdges)
theorem ok_anneallaw24_ConfigEdges : OrcOk PR c_anneallaw24_ConfigEdges := fnT okO_anneallaw24_ConfigEdges mixed p_anneallaw24_ConfigEdges (by kernel_rfl) (by kernel_rfl) (L := L_anneallaw24_ConfigEdges) (kp := false) (by kernel_rfl) (inn := inn_anneallaw24_ConfigEdges) (out := out_anneallaw24_ConfigEdges) (fun _ _ => rfl) (loopsL (l := [((lpN f_anneallaw24_ConfigEdges 0), ls_anneallaw24_ConfigEdges_0)]) (by kernel_rfl) ⟨lp_anneallaw24_ConfigEdges_0, trivial⟩) (fun x y => by kernel_rfl)
end Go.Proofs.Ytcpicekmnkjceaa.VI

namespace Go.Proofs.Ytcpicekmnkjceaa.VI
set_option linter.unusedVariables false
set_option linter.unusedSimpArgs false
set_option linter.unusedSimpArgs false
set_option linter.unusedVariables false
set_option maxRecDepth 100000
set_option maxHeartbeats 4000000
def R2 (p q : Int) (r : CfgF) : Prop := ((1 ≤ p ∧ p ≤ 4096) ∧ (1 ≤ q ∧ q ≤ 4096)) ∧ (p + 1) * q ≤ 65536 ∧ kindsP ([], r) ∧ numsP ([], r) ∧ countsP ([], r) ∧ (CfgT.batch ([], r) * p ≤ 262144 ∧ CfgT.batch ([], r) * q ≤ 262144)
instance (p q : Int) (r : CfgF) : Decidable (R2 p q r) := inferInstanceAs (Decidable (_ ∧ _))
instance (c : CfgT) : Decidable (cU c) := inferInstanceAs (Decidable (_ ∧ _))
theorem right2 {p q : Int} {r : CfgF} : right ([p, q], r) ↔ R2 p q r := by
  have h2 : ∀ P : Nat → Prop, (∀ j, j < 2 → P j) ↔ P 0 ∧ P 1 := fun P => ⟨fun h => ⟨h 0 (by omega), h 1 (by omega)⟩, fun h j hj => by
    have : j = 0 ∨ j = 1 := by omega
    rcases this with rfl | rfl
    · exact h.1
    · exact h.2⟩
  have hw : wok [p, q] ↔ (1 ≤ p ∧ p ≤ 4096) ∧ (1 ≤ q ∧ q ≤ 4096) := by
    unfold wok
    simp only [List.length_cons, List.length_nil, Nat.zero_add, Nat.reduceAdd, h2, List.getD_cons_zero, List.getD_cons_succ]
    simp
  have hp : pr [p, q] 1 = (p + 1) * q := by simp [pr]
  unfold right R2
  simp only [CfgT.w, List.length_cons, List.length_nil, Nat.zero_add, Nat.reduceAdd, Nat.reduceSub, hp, hw, h2, List.getD_cons_zero, List.getD_cons_succ]
  exact Iff.rfl
theorem ck2 {p q : Int} {r : CfgF} (h : cU ([p, q], r)) : F_config_Check ([p, q], r) = some (if R2 p q r then 0 else 24) := by
  rw [check_eq h]
  by_cases k : R2 p q r
  · rw [if_pos k, if_pos (right2.2 k)]
  · rw [if_neg k, if_neg fun j => k (right2.1 j)]
def lsE (n i : Nat) : List Int := List.replicate i 1 ++ List.replicate (n - i) 0
theorem lsE_set {n i : Nat} (h : i < n) : (lsE n i).set i 1 = lsE n (i + 1) := by
  unfold lsE
  rw [List.set_append_right _ _ (by simp)]
  simp only [List.length_replicate, Nat.sub_self]
  rw [show n - i = (n - (i + 1)) + 1 by omega, List.replicate_succ, List.set_cons_zero, List.replicate_succ' (n := i), List.append_assoc]
  rfl
theorem ones {f : Bool} {n : Nat} (hn : n ≤ 1000) (B : CfgF) : lim st_anneallaw24_ConfigEdges_0 ((f, (0, ())), ((n, B), (List.replicate n 0, ()))) = some ((f, ()), ((n, B), (List.replicate n 1, ()))) := by
  have := lim_seq (st := st_anneallaw24_ConfigEdges_0) (fun i => ((f, ((i : Int), ())), ((n, B), (lsE n i, ())))) (b := ((f, ()), ((n, B), (List.replicate n 1, ())))) n (fun i hi R kn ko => by
    have w1 : IntKind.i64.wrap ((i : Int) + 1) = ((i + 1 : Nat) : Int) := by rw [wi64 (by omega)]; omega
    have hl : (i < (lsE n i).length) = True := by simp [lsE]; omega
    simp only [st_anneallaw24_ConfigEdges_0, ltI hi, natnn, and_self, decide_true, cond_true, Int.toNat_natCast, Nat.zero_add, Nat.mul_one, hl, lsE_set hi, w1]) (fun R kn ko => by
    have hl : lsE n n = List.replicate n 1 := by simp [lsE]
    simp only [st_anneallaw24_ConfigEdges_0, ltI', decide_false, cond_false, hl])
  simpa [lsE] using this
theorem edges {k j : Int} (hk : 0 ≤ k ∧ k ≤ 255) (hj : 0 ≤ j ∧ j ≤ 255) : F_anneallaw24_ConfigEdges k j = some true := by
  unfold F_anneallaw24_ConfigEdges
  simp only [known_eq, Option.bind_some, Bool.not_true, cond_false, tmod_nn hk.1, tmod_nn hj.1, bif_eq]
  have hj3 : j % 3 = 0 ∨ j % 3 = 1 ∨ j % 3 = 2 := by omega
  have r64 : right (List.replicate 64 1, (0, 0, 0, 0, 0, 1008981770, 0, 1065336439, 841731191, 0, 1065353216, 0, 2, 1, 1, 1, 0, false, 0, 0, 4, 1, 1, 2, 0, ())) := by
    refine ⟨by unfold wok; decide +kernel, by decide +kernel, by decide, by decide, by decide, by decide +kernel⟩
  have r65 : right (List.replicate 65 1, (0, 0, 0, 0, 0, 1008981770, 0, 1065336439, 841731191, 0, 1065353216, 0, 2, 1, 1, 1, 0, false, 0, 0, 4, 1, 1, 2, 0, ())) := by
    refine ⟨by unfold wok; decide +kernel, by decide +kernel, by decide, by decide, by decide, by decide +kernel⟩
  have r66 : ¬ right (List.replicate 66 1, (0, 0, 0, 0, 0, 1008981770, 0, 1065336439, 841731191, 0, 1065353216, 0, 2, 1, 1, 1, 0, false, 0, 0, 4, 1, 1, 2, 0, ())) := fun h => by
    have := h.1.2.1; revert this; decide
  have c0 : F_config_Check (List.replicate 64 1, (0, 0, 0, 0, 0, 1008981770, 0, 1065336439, 841731191, 0, 1065353216, 0, 2, 1, 1, 1, 0, false, 0, 0, 4, 1, 1, 2, 0, ())) = some 0 := by rw [check_eq (by decide), if_pos r64]
  have c1 : F_config_Check (List.replicate 65 1, (0, 0, 0, 0, 0, 1008981770, 0, 1065336439, 841731191, 0, 1065353216, 0, 2, 1, 1, 1, 0, false, 0, 0, 4, 1, 1, 2, 0, ())) = some 0 := by rw [check_eq (by decide), if_pos r65]
  have c2 : F_config_Check (List.replicate 66 1, (0, 0, 0, 0, 0, 1008981770, 0, 1065336439, 841731191, 0, 1065353216, 0, 2, 1, 1, 1, 0, false, 0, 0, 4, 1, 1, 2, 0, ())) = some 24 := by rw [check_eq (by decide), if_neg r66]
  have tr : ∀ (n : Nat), (List.replicate n (1 : Int)).take n = List.replicate n 1 := fun n => by simp
  have hk8 : k % 8 = 0 ∨ k % 8 = 1 ∨ k % 8 = 2 ∨ k % 8 = 3 ∨ k % 8 = 4 ∨ k % 8 = 5 ∨ k % 8 = 6 ∨ k % 8 = 7 := by omega
  rcases hj3 with h | h | h <;> rw [h]
  · have e0 : IntKind.i64.wrap (IntKind.i64.wrap 0 - 1) = -1 := by decide
    have e1 : IntKind.i64.wrap (65 + -1) = 64 := by decide
    rw [e0, e1]
    rcases hk8 with g | g | g | g | g | g | g | g <;> rw [g]
    · rw [if_pos rfl, bif_dec, if_pos (by decide)]
      show ((lim st_anneallaw24_ConfigEdges_0 ((decide (((-1) : Int) ≤ 0), (0, ())), ((64, _), (List.replicate 64 0, ())))).bind _) = _
      rw [ones (by omega)]
      simp only [Option.bind_some, List.drop_zero, tr]
      rw [c0]; rfl
    · rw [if_neg (by decide), if_pos rfl, ck2 (by decide)]; show _ = _; kernel_rfl
    · rw [if_neg (by decide), if_neg (by decide), if_pos rfl, ck2 (by decide)]; show _ = _; kernel_rfl
    · rw [if_neg (by decide), if_neg (by decide), if_neg (by decide), if_pos rfl, ck2 (by decide)]; show _ = _; kernel_rfl
    · rw [if_neg (by decide), if_neg (by decide), if_neg (by decide), if_neg (by decide), if_pos rfl, ck2 (by decide)]; show _ = _; kernel_rfl
    · rw [if_neg (by decide), if_neg (by decide), if_neg (by decide), if_neg (by decide), if_neg (by decide), if_pos rfl, ck2 (by decide)]; show _ = _; kernel_rfl
    · rw [if_neg (by decide), if_neg (by decide), if_neg (by decide), if_neg (by decide), if_neg (by decide), if_neg (by decide), if_pos rfl, ck2 (by decide)]; show _ = _; kernel_rfl
    · rw [if_neg (by decide), if_neg (by decide), if_neg (by decide), if_neg (by decide), if_neg (by decide), if_neg (by decide), if_neg (by decide), ck2 (by decide)]; show _ = _; kernel_rfl
  · have e0 : IntKind.i64.wrap (IntKind.i64.wrap 1 - 1) = 0 := by decide
    have e1 : IntKind.i64.wrap (65 + 0) = 65 := by decide
    rw [e0, e1]
    rcases hk8 with g | g | g | g | g | g | g | g <;> rw [g]
    · rw [if_pos rfl, bif_dec, if_pos (by decide)]
      show ((lim st_anneallaw24_ConfigEdges_0 ((decide (((0) : Int) ≤ 0), (0, ())), ((65, _), (List.replicate 65 0, ())))).bind _) = _
      rw [ones (by omega)]
      simp only [Option.bind_some, List.drop_zero, tr]
      rw [c1]; rfl
    · rw [if_neg (by decide), if_pos rfl, ck2 (by decide)]; show _ = _; kernel_rfl
    · rw [if_neg (by decide), if_neg (by decide), if_pos rfl, ck2 (by decide)]; show _ = _; kernel_rfl
    · rw [if_neg (by decide), if_neg (by decide), if_neg (by decide), if_pos rfl, ck2 (by decide)]; show _ = _; kernel_rfl
    · rw [if_neg (by decide), if_neg (by decide), if_neg (by decide), if_neg (by decide), if_pos rfl, ck2 (by decide)]; show _ = _; kernel_rfl
    · rw [if_neg (by decide), if_neg (by decide), if_neg (by decide), if_neg (by decide), if_neg (by decide), if_pos rfl, ck2 (by decide)]; show _ = _; kernel_rfl
    · rw [if_neg (by decide), if_neg (by decide), if_neg (by decide), if_neg (by decide), if_neg (by decide), if_neg (by decide), if_pos rfl, ck2 (by decide)]; show _ = _; kernel_rfl
    · rw [if_neg (by decide), if_neg (by decide), if_neg (by decide), if_neg (by decide), if_neg (by decide), if_neg (by decide), if_neg (by decide), ck2 (by decide)]; show _ = _; kernel_rfl
  · have e0 : IntKind.i64.wrap (IntKind.i64.wrap 2 - 1) = 1 := by decide
    have e1 : IntKind.i64.wrap (65 + 1) = 66 := by decide
    rw [e0, e1]
    rcases hk8 with g | g | g | g | g | g | g | g <;> rw [g]
    · rw [if_pos rfl, bif_dec, if_pos (by decide)]
      show ((lim st_anneallaw24_ConfigEdges_0 ((decide (((1) : Int) ≤ 0), (0, ())), ((66, _), (List.replicate 66 0, ())))).bind _) = _
      rw [ones (by omega)]
      simp only [Option.bind_some, List.drop_zero, tr]
      rw [c2]; rfl
    · rw [if_neg (by decide), if_pos rfl, ck2 (by decide)]; show _ = _; kernel_rfl
    · rw [if_neg (by decide), if_neg (by decide), if_pos rfl, ck2 (by decide)]; show _ = _; kernel_rfl
    · rw [if_neg (by decide), if_neg (by decide), if_neg (by decide), if_pos rfl, ck2 (by decide)]; show _ = _; kernel_rfl
    · rw [if_neg (by decide), if_neg (by decide), if_neg (by decide), if_neg (by decide), if_pos rfl, ck2 (by decide)]; show _ = _; kernel_rfl
    · rw [if_neg (by decide), if_neg (by decide), if_neg (by decide), if_neg (by decide), if_neg (by decide), if_pos rfl, ck2 (by decide)]; show _ = _; kernel_rfl
    · rw [if_neg (by decide), if_neg (by decide), if_neg (by decide), if_neg (by decide), if_neg (by decide), if_neg (by decide), if_pos rfl, ck2 (by decide)]; show _ = _; kernel_rfl
    · rw [if_neg (by decide), if_neg (by decide), if_neg (by decide), if_neg (by decide), if_neg (by decide), if_neg (by decide), if_neg (by decide), ck2 (by decide)]; show _ = _; kernel_rfl
theorem callConfigEdges : ∀ l, args [.i .u8, .i .u8] l → oks l → CallOk PR i_anneallaw24_ConfigEdges l [] fun r _ => r = .b true :=
  rowT (fa := fa_anneallaw24_ConfigEdges) (F := G_anneallaw24_ConfigEdges) rfl rfl ok_anneallaw24_ConfigEdges (enters p_anneallaw24_ConfigEdges (by kernel_rfl) (by kernel_rfl)) rfl fun x hx => edges hx.1 hx.2.1
end Go.Proofs.Ytcpicekmnkjceaa.VI

namespace Go.Proofs.Ytcpicekmnkjceaa.VI
set_option linter.unusedVariables false
set_option linter.unusedSimpArgs false
open Go.ChangeShapes Go.WideShapes Go.RowKit Go.WideElems Ytcpicekmnkjceaa
set_option maxRecDepth 100000
theorem laid : laidOutB Try.prog = true := by kernel_rfl
theorem own : ownKnob Try.prog.godebug = none := by kernel_rfl
theorem lifted (os : Os) (started : os.Started) (H : Type) (enc : TypeId × Value → H) :
    ReturnsInHanded {} Try.checked os 19 .any (Rows.configEdgesSpec.pre6 enc Try.prog Try.f19 Rows.configEdgesRow.domain false) (Rows.configEdgesSpec.post enc Try.prog Try.f19 false true false false) :=
  lift_args (C := Try.checked) own started (by kernel_rfl) Try.func19
    (ChangeSpec.witness6 (enc := enc) (C := Try.checked) false ⟨#[], #[.int .u8 0, .int .u8 0], []⟩ 8 (by kernel_rfl) (by kernel_rfl) (by kernel_rfl) (by kernel_rfl))
    laid Try.underlying4 rfl (by kernel_rfl) rfl (fun ds hd => match ds, hd with
    | [_, _], _ => rfl) (d := 6) (by kernel_rfl) (Fs := [.i .u8, .i .u8]) (by kernel_rfl) callConfigEdges
theorem over : Rows.configEdgesRow.holds Try.pinned (OpenSpec.ofChange Rows.configEdgesSpec) :=
  OpenClaim.holds_of_wide 19 Try.f19 rfl rfl rfl rfl rfl rfl rfl ⟨rfl, rfl, rfl, rfl, rfl⟩ rfl rfl rfl rfl rfl (by kernel_rfl) Try.func19 (by kernel_rfl)
    (of_decide_eq_true (by kernel_rfl)) (by unfold Func.isWrapper; first | (rw [if_pos (by decide +kernel)]; kernel_rfl) | (rw [if_neg (by decide +kernel)]; exact ⟨rfl, rfl⟩))
    (fun os started H enc _ => lifted os started H enc)
end Go.Proofs.Ytcpicekmnkjceaa.VI
