import Derived.Test.YtkknnloamidaiaaGreatT014af9dc
import Derived.Test.YtkknnloamidaiaaGreatRows
import Derived.WalkKit
import Derived.ProofKit
namespace Go.Proofs.YtkknnloamidaiaaGreat.VI
set_option linter.unusedVariables false
set_option linter.unusedSimpArgs false
set_option maxRecDepth 100000
set_option linter.unusedSimpArgs false
set_option linter.unusedVariables false
noncomputable def O_anneallaw12_FuncsTell : Orc := (orm c_anneallaw12_known (orm c_annealseat_Num (orm c_annealseat_Mild (orm c_funcs_Exp (orm c_annealref10_Exp (orm c_funcs_Log (orm c_annealref10_Log (orm c_funcs_Tanh (orm c_annealref10_Tanh (orm c_funcs_Sigmoid (orm c_annealref10_Sigmoid (orm c_funcs_Gelu (orm c_annealref10_Gelu (orm c_funcs_Slope (orm c_annealref10_Slope (orm c_funcs_Cospi c_annealref10_Cospi))))))))))))))))
theorem okO_anneallaw12_FuncsTell : OrcOk PR O_anneallaw12_FuncsTell := (orm_ok ok_anneallaw12_known (orm_ok ok_annealseat_Num (orm_ok ok_annealseat_Mild (orm_ok ok_funcs_Exp (orm_ok ok_annealref10_Exp (orm_ok ok_funcs_Log (orm_ok ok_annealref10_Log (orm_ok ok_funcs_Tanh (orm_ok ok_annealref10_Tanh (orm_ok ok_funcs_Sigmoid (orm_ok ok_annealref10_Sigmoid (orm_ok ok_funcs_Gelu (orm_ok ok_annealref10_Gelu (orm_ok ok_funcs_Slope (orm_ok ok_annealref10_Slope (orm_ok ok_funcs_Cospi ok_annealref10_Cospi))))))))))))))))
abbrev fa_anneallaw12_FuncsTell : Fm := (.pair (.i .u32) (.pair (.i .u32) .unit))
abbrev ha_anneallaw12_FuncsTell : List BF := []
abbrev fr_anneallaw12_FuncsTell : Fm := .b
abbrev hr_anneallaw12_FuncsTell : List BF := []
noncomputable def L_anneallaw12_FuncsTell : Lps := (lpB 5 (.un 6 [20, 21, 22]) L0)
def inn_anneallaw12_FuncsTell : T fr_anneallaw12_FuncsTell → TH hr_anneallaw12_FuncsTell → Bool := (fun z w => z)
def out_anneallaw12_FuncsTell : Bool → T fr_anneallaw12_FuncsTell × TH hr_anneallaw12_FuncsTell := fun r => (r, ())
noncomputable def F_anneallaw12_FuncsTell (a0 : Int) (a1 : Int) : Option (Bool) :=
  (F_anneallaw12_known).bind fun r0 =>
  bif (!r0) then
    (some false)
  else
    ((F_annealseat_Num (2:Int) a1)).bind fun r1 =>
    ((F_annealseat_Mild (2:Int) a1)).bind fun r2 =>
    let x3 : List Int := [a0, r1, r2, (IntKind.wrap .u32 ((Int.tmod a1 (67108864:Int)) + (1056964608:Int))), (IntKind.wrap .u32 ((Int.tmod a1 (67108864:Int)) + (3204448256:Int)))]
    let x4 : Int := (List.getD x3 (0:Nat) (0:Int))
    let x5 : Int := (List.getD x3 (1:Nat) (0:Int))
    let x6 : Int := (List.getD x3 (2:Nat) (0:Int))
    let x7 : Int := (List.getD x3 (3:Nat) (0:Int))
    let x8 : Int := (List.getD x3 (4:Nat) (0:Int))
    ((F_funcs_Exp x4)).bind fun r9 =>
    ((F_annealref10_Exp x4)).bind fun r10 =>
    bif (r9 != r10) then
      (some false)
    else
      ((F_funcs_Log x4)).bind fun r11 =>
      ((F_annealref10_Log x4)).bind fun r12 =>
      bif (r11 != r12) then
        (some false)
      else
        ((F_funcs_Tanh x4)).bind fun r13 =>
        ((F_annealref10_Tanh x4)).bind fun r14 =>
        bif (r13 != r14) then
          (some false)
        else
          ((F_funcs_Sigmoid x4)).bind fun r15 =>
          ((F_annealref10_Sigmoid x4)).bind fun r16 =>
          bif (r15 != r16) then
            (some false)
          else
            ((F_funcs_Gelu x4)).bind fun r17 =>
            ((F_annealref10_Gelu x4)).bind fun r18 =>
            bif (r17 != r18) then
              (some false)
            else
              ((F_funcs_Slope x4)).bind fun r19 =>
              ((F_annealref10_Slope x4)).bind fun r20 =>
              bif (r19 != r20) then
                (some false)
              else
                ((F_funcs_Cospi x4)).bind fun r21 =>
                ((F_annealref10_Cospi x4)).bind fun r22 =>
                bif (r21 != r22) then
                  (some false)
                else
                  ((F_funcs_Exp x5)).bind fun r23 =>
                  ((F_annealref10_Exp x5)).bind fun r24 =>
                  bif (r23 != r24) then
                    (some false)
                  else
                    ((F_funcs_Log x5)).bind fun r25 =>
                    ((F_annealref10_Log x5)).bind fun r26 =>
                    bif (r25 != r26) then
                      (some false)
                    else
                      ((F_funcs_Tanh x5)).bind fun r27 =>
                      ((F_annealref10_Tanh x5)).bind fun r28 =>
                      bif (r27 != r28) then
                        (some false)
                      else
                        ((F_funcs_Sigmoid x5)).bind fun r29 =>
                        ((F_annealref10_Sigmoid x5)).bind fun r30 =>
                        bif (r29 != r30) then
                          (some false)
                        else
                          ((F_funcs_Gelu x5)).bind fun r31 =>
                          ((F_annealref10_Gelu x5)).bind fun r32 =>
                          bif (r31 != r32) then
                            (some false)
                          else
                            ((F_funcs_Slope x5)).bind fun r33 =>
                            ((F_annealref10_Slope x5)).bind fun r34 =>
                            bif (r33 != r34) then
                              (some false)
                            else
                              ((F_funcs_Cospi x5)).bind fun r35 =>
                              ((F_annealref10_Cospi x5)).bind fun r36 =>
                              bif (r35 != r36) then
                                (some false)
                              else
                                ((F_funcs_Exp x6)).bind fun r37 =>
                                ((F_annealref10_Exp x6)).bind fun r38 =>
                                bif (r37 != r38) then
                                  (some false)
                                else
                                  ((F_funcs_Log x6)).bind fun r39 =>
                                  ((F_annealref10_Log x6)).bind fun r40 =>
                                  bif (r39 != r40) then
                                    (some false)
                                  else
                                    ((F_funcs_Tanh x6)).bind fun r41 =>
                                    ((F_annealref10_Tanh x6)).bind fun r42 =>
                                    bif (r41 != r42) then
                                      (some false)
                                    else
                                      ((F_funcs_Sigmoid x6)).bind fun r43 =>
                                      ((F_annealref10_Sigmoid x6)).bind fun r44 =>
                                      bif (r43 != r44) then
                                        (some false)
                                      else
                                        ((F_funcs_Gelu x6)).bind fun r45 =>
                                        ((F_annealref10_Gelu x6)).bind fun r46 =>
                                        bif (r45 != r46) then
                                          (some false)
                                        else
                                          ((F_funcs_Slope x6)).bind fun r47 =>
                                          ((F_annealref10_Slope x6)).bind fun r48 =>
                                          bif (r47 != r48) then
                                            (some false)
                                          else
                                            ((F_funcs_Cospi x6)).bind fun r49 =>
                                            ((F_annealref10_Cospi x6)).bind fun r50 =>
                                            bif (r49 != r50) then
                                              (some false)
                                            else
                                              ((F_funcs_Exp x7)).bind fun r51 =>
                                              ((F_annealref10_Exp x7)).bind fun r52 =>
                                              bif (r51 != r52) then
                                                (some false)
                                              else
                                                ((F_funcs_Log x7)).bind fun r53 =>
                                                ((F_annealref10_Log x7)).bind fun r54 =>
                                                bif (r53 != r54) then
                                                  (some false)
                                                else
                                                  ((F_funcs_Tanh x7)).bind fun r55 =>
                                                  ((F_annealref10_Tanh x7)).bind fun r56 =>
                                                  bif (r55 != r56) then
                                                    (some false)
                                                  else
                                                    ((F_funcs_Sigmoid x7)).bind fun r57 =>
                                                    ((F_annealref10_Sigmoid x7)).bind fun r58 =>
                                                    bif (r57 != r58) then
                                                      (some false)
                                                    else
                                                      ((F_funcs_Gelu x7)).bind fun r59 =>
                                                      ((F_annealref10_Gelu x7)).bind fun r60 =>
                                                      bif (r59 != r60) then
                                                        (some false)
                                                      else
                                                        ((F_funcs_Slope x7)).bind fun r61 =>
                                                        ((F_annealref10_Slope x7)).bind fun r62 =>
                                                        bif (r61 != r62) then
                                                          (some false)
                                                        else
                                                          ((F_funcs_Cospi x7)).bind fun r63 =>
                                                          ((F_annealref10_Cospi x7)).bind fun r64 =>
                                                          bif (r63 != r64) then
                                                            (some false)
                                                          else
                                                            ((F_funcs_Exp x8)).bind fun r65 =>
                                                            ((F_annealref10_Exp x8)).bind fun r66 =>
                                                            bif (r65 != r66) then
                                                              (some false)
                                                            else
                                                              ((F_funcs_Log x8)).bind fun r67 =>
                                                              ((F_annealref10_Log x8)).bind fun r68 =>
                                                              bif (r67 != r68) then
                                                                (some false)
                                                              else
                                                                ((F_funcs_Tanh x8)).bind fun r69 =>
                                                                ((F_annealref10_Tanh x8)).bind fun r70 =>
                                                                bif (r69 != r70) then
                                                                  (some false)
                                                                else
                                                                  ((F_funcs_Sigmoid x8)).bind fun r71 =>
                                                                  ((F_annealref10_Sigmoid x8)).bind fun r72 =>
                                                                  bif (r71 != r72) then
                                                                    (some false)
                                                                  else
                                                                    ((F_funcs_Gelu x8)).bind fun r73 =>
                                                                    ((F_annealref10_Gelu x8)).bind fun r74 =>
                                                                    bif (r73 != r74) then
                                                                      (some false)
                                                                    else
                                                                      ((F_funcs_Slope x8)).bind fun r75 =>
                                                                      ((F_annealref10_Slope x8)).bind fun r76 =>
                                                                      bif (r75 != r76) then
                                                                        (some false)
                                                                      else
                                                                        ((F_funcs_Cospi x8)).bind fun r77 =>
                                                                        ((F_annealref10_Cospi x8)).bind fun r78 =>
                                                                        bif (r77 != r78) then
                                                                          (some false)
                                                                        else
                                                                          (some true)
noncomputable def G_anneallaw12_FuncsTell : T fa_anneallaw12_FuncsTell → TH ha_anneallaw12_FuncsTell → Option (Bool) := fun x y => F_anneallaw12_FuncsTell x.1 x.2.1
noncomputable def c_anneallaw12_FuncsTell : Orc := ent i_anneallaw12_FuncsTell [] 0 (sp fa_anneallaw12_FuncsTell ha_anneallaw12_FuncsTell fr_anneallaw12_FuncsTell hr_anneallaw12_FuncsTell G_anneallaw12_FuncsTell out_anneallaw12_FuncsTell)
theorem ok_anneallaw12_FuncsTell : OrcOk PR c_anneallaw12_FuncsTell := fnT okO_anneallaw12_FuncsTell mixed p_anneallaw12_FuncsTell (by kernel_rfl) (by kernel_rfl) (L := L_anneallaw12_FuncsTell) (kp := false) (by kernel_rfl) (inn := inn_anneallaw12_FuncsTell) (out := out_anneallaw12_FuncsTell) (fun _ _ => rfl) (loopsL (l := []) (by kernel_rfl) trivial) (fun x y => by kernel_rfl)
end Go.Proofs.YtkknnloamidaiaaGreat.VI

namespace Go.Proofs.YtkknnloamidaiaaGreat.VI
set_option linter.unusedVariables false
set_option linter.unusedSimpArgs false
set_option linter.unusedSimpArgs false
set_option linter.unusedVariables false
set_option maxRecDepth 100000
set_option maxHeartbeats 8000000
theorem mild_v {k : Int} (f : Int) (h : w32 k) : ∃ v, F_annealseat_Mild f k = some v ∧ w32 v := by
  unfold F_annealseat_Mild
  rw [bif_eq]
  by_cases h0 : Int.tmod k 7 = 0
  · rw [if_pos h0]; exact ⟨0, rfl, ⟨by decide, by decide⟩⟩
  rw [if_neg h0, zeror_w, ← widr_nf f]
  rcases nf_cases f with e | e | e <;> rw [e]
  all_goals
    show ∃ v, (bif (bits .and .u32 k 1 == 1) then some (bits .or .u32 _ _) else some (IntKind.wrap .u32 _)) = some v ∧ w32 v
    cases bits .and .u32 k 1 == 1
    · refine ⟨_, rfl, ?_⟩; rw [wu32_eq]; exact ⟨by omega, by omega⟩
    · exact ⟨_, rfl, or_w _ _⟩
theorem tell1 {x : Int} (h : w32 x) (k : Option Bool) :
    ((F_funcs_Exp x).bind fun r9 =>
    (F_annealref10_Exp x).bind fun r10 =>
    bif (r9 != r10) then
      (some false)
    else
      (F_funcs_Log x).bind fun r11 =>
      (F_annealref10_Log x).bind fun r12 =>
      bif (r11 != r12) then
        (some false)
      else
        (F_funcs_Tanh x).bind fun r13 =>
        (F_annealref10_Tanh x).bind fun r14 =>
        bif (r13 != r14) then
          (some false)
        else
          (F_funcs_Sigmoid x).bind fun r15 =>
          (F_annealref10_Sigmoid x).bind fun r16 =>
          bif (r15 != r16) then
            (some false)
          else
            (F_funcs_Gelu x).bind fun r17 =>
            (F_annealref10_Gelu x).bind fun r18 =>
            bif (r17 != r18) then
              (some false)
            else
              (F_funcs_Slope x).bind fun r19 =>
              (F_annealref10_Slope x).bind fun r20 =>
              bif (r19 != r20) then
                (some false)
              else
                (F_funcs_Cospi x).bind fun r21 =>
                (F_annealref10_Cospi x).bind fun r22 =>
                bif (r21 != r22) then
                  (some false)
                else k) = k := by
  have e : ∀ z : Int, (z != z) = false := fun z => by simp
  rw [exp_eq h, rexp_eq h, log_eq h, rlog_eq h, tanh_eq h, rtanh_eq h, sigm_eq h, rsigm_eq h, gelu_eq h, rgelu_eq h, slope_eq h, rslope_eq h, cospi_eq h, rcospi_eq h]
  simp only [Option.bind_some, e, cond_false]
theorem funcsTell {a k : Int} (ha : w32 a) (hk : w32 k) : F_anneallaw12_FuncsTell a k = some true := by
  have h1 := hk.1
  have h2 := hk.2
  obtain ⟨n, en, hn⟩ := num_w 2 hk
  obtain ⟨m, em, hm⟩ := mild_v 2 hk
  have t : Int.tmod k 67108864 = k % 67108864 := tmod_nn h1
  unfold F_anneallaw12_FuncsTell
  rw [known12_eq, en, em, t, wu32 (n := k % 67108864 + 1056964608) (by omega), wu32 (n := k % 67108864 + 3204448256) (by omega)]
  simp only [Option.bind_some]
  show (bif (!true) then some false else _) = _
  rw [Bool.not_true, cond_false]
  have w3 : w32 (k % 67108864 + 1056964608) := ⟨by omega, by omega⟩
  have w4 : w32 (k % 67108864 + 3204448256) := ⟨by omega, by omega⟩
  exact (tell1 ha _).trans ((tell1 hn _).trans ((tell1 hm _).trans ((tell1 w3 _).trans (tell1 w4 _))))
theorem callFuncsTell : ∀ l, args [.i .u32, .i .u32] l → oks l → CallOk PR i_anneallaw12_FuncsTell l [] fun r _ => r = .b true :=
  rowT (fa := fa_anneallaw12_FuncsTell) (F := G_anneallaw12_FuncsTell) rfl rfl ok_anneallaw12_FuncsTell (enters p_anneallaw12_FuncsTell (by kernel_rfl) (by kernel_rfl)) rfl fun x hx =>
    funcsTell ⟨hx.1.1, Int.lt_add_one_of_le hx.1.2⟩ ⟨hx.2.1.1, Int.lt_add_one_of_le hx.2.1.2⟩
end Go.Proofs.YtkknnloamidaiaaGreat.VI

namespace Go.Proofs.YtkknnloamidaiaaGreat.VI
set_option linter.unusedVariables false
set_option linter.unusedSimpArgs false
open Go.ChangeShapes Go.WideShapes Go.RowKit Go.WideElems YtkknnloamidaiaaGreat
set_option maxRecDepth 100000
theorem laid : laidOutB Tryz.prog = true := by kernel_rfl
theorem own : ownKnob Tryz.prog.godebug = none := by kernel_rfl
theorem lifted (os : Os) (started : os.Started) (H : Type) (enc : TypeId × Value → H) :
    ReturnsInHanded {} Tryz.checked os 3 .any (Rows.funcsTellSpec.pre6 enc Tryz.prog Tryz.f3 Rows.funcsTellRow.domain false) (Rows.funcsTellSpec.post enc Tryz.prog Tryz.f3 false true false false) :=
  lift_args (C := Tryz.checked) own started (by kernel_rfl) Tryz.func3
    (ChangeSpec.witness6 (enc := enc) (C := Tryz.checked) false ⟨#[], #[.int .u32 0, .int .u32 0], []⟩ 8 (by kernel_rfl) (by kernel_rfl) (by kernel_rfl) (by kernel_rfl))
    laid Tryz.underlying4 rfl (by kernel_rfl) rfl (fun ds hd => match ds, hd with
    | [_, _], _ => rfl) (d := 6) (by kernel_rfl) (Fs := [.i .u32, .i .u32]) (by kernel_rfl) callFuncsTell
theorem over : Rows.funcsTellRow.holds Tryz.pinned (OpenSpec.ofChange Rows.funcsTellSpec) :=
  OpenClaim.holds_of_wide 3 Tryz.f3 rfl rfl rfl rfl rfl rfl rfl ⟨rfl, rfl, rfl, rfl, rfl⟩ rfl rfl rfl rfl rfl (by kernel_rfl) Tryz.func3 (by kernel_rfl)
    (of_decide_eq_true (by kernel_rfl)) (by unfold Func.isWrapper; first | (rw [if_pos (by decide +kernel)]; kernel_rfl) | (rw [if_neg (by decide +kernel)]; exact ⟨rfl, rfl⟩))
    (fun os started H enc _ => lifted os started H enc)
end Go.Proofs.YtkknnloamidaiaaGreat.VI
