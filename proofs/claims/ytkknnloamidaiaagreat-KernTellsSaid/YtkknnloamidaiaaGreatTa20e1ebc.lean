import Derived.Test.YtkknnloamidaiaaGreatT5203e4ca
import Derived.Test.YtkknnloamidaiaaGreatRows
import Derived.WalkKit
import Derived.ProofKit
namespace Go.Proofs.YtkknnloamidaiaaGreat.VI
set_option linter.unusedVariables false
set_option linter.unusedSimpArgs false
set_option linter.unusedSimpArgs false
set_option linter.unusedVariables false
set_option maxRecDepth 100000
set_option maxHeartbeats 8000000
def tk (a : TsT) : TsT := (a.1, (a.2.1, (a.2.2.1, ((List.take (List.length a.2.2.2.1) a.2.2.2.1), ()))))
theorem tk_id (a : TsT) : tk a = a := by unfold tk; rw [List.take_length]
noncomputable def TBd (a b : TsT) (K : Option Bool) : Option Bool :=
  (F_kern_Plain (tk a) (tk b)).bind fun r32 =>
  (F_annealref13_Plain (tk a) (tk b)).bind fun r36 =>
  (F_kern_Rows (tk a) (tk b)).bind fun r40 =>
  (F_annealref13_Rows (tk a) (tk b)).bind fun r44 =>
  (F_kern_Cols (tk a) (tk b)).bind fun r48 =>
  (F_annealref13_Cols (tk a) (tk b)).bind fun r52 =>
  bif (r32.2.1 != r36.2.1) then
    (some false)
  else
    (F_annealhelp_Tensor (tk r32.1) (tk r36.1)).bind fun r56 =>
    bif (!r56) then
      (some false)
    else
      bif (r40.2.1 != r44.2.1) then
        (some false)
      else
        (F_annealhelp_Tensor (tk r40.1) (tk r44.1)).bind fun r57 =>
        bif (!r57) then
          (some false)
        else
          bif (r48.2.1 != r52.2.1) then
            (some false)
          else
            (F_annealhelp_Tensor (tk r48.1) (tk r52.1)).bind fun r58 =>
            bif (!r58) then
              (some false)
            else K
theorem tb_ok (a b : TsT) (K : Option Bool) (hA : wl a.2.2.2.1) (hB : wl b.2.2.2.1) (nA : a.2.2.2.1.length ≤ 1073741824) (nB : b.2.2.2.1.length ≤ 1073741824) : TBd a b K = K := by
  unfold TBd
  simp only [tk_id, plain_un, rows_un, cols_un, plainr_un, rowsr_un, colsr_un]
  rw [prodr_eq a b false false hA hB nA nB, prodr_eq a b false true hA hB nA nB, prodr_eq a b true false hA hB nA nB]
  obtain ⟨t1, e1, h1, l1⟩ := times_some a b false true hA hB nA nB
  obtain ⟨t2, e2, h2, l2⟩ := times_some a b false false hA hB nA nB
  obtain ⟨t3, e3, h3, l3⟩ := times_some a b true true hA hB nA nB
  simp only [Bool.not_false, Bool.not_true]
  rw [h1, h2, h3]
  simp only [Option.bind_some]
  rw [tens_eq t1 t1 l1, tens_eq t2 t2 l2, tens_eq t3 t3 l3]
  simp
theorem light_len {a : TsT} (h : F_annealhelp_Light a = some true) : a.2.2.2.1.length ≤ 60 := by
  unfold F_annealhelp_Light at h
  rw [bif_dec] at h
  by_cases k : ((List.length a.2.2.2.1 : Nat) : Int) ≤ 60
  · omega
  · rw [if_neg k] at h; cases h
theorem light_some (a : TsT) : ∃ b, F_annealhelp_Light a = some b := by
  unfold F_annealhelp_Light
  simp only [bif_dec]
  (repeat' split) <;> exact ⟨_, rfl⟩
theorem tmod5 {a : Int} (h : 0 ≤ a) : ∃ n : Nat, IntKind.wrap .i64 (Int.tmod a 5) = n ∧ n ≤ 4 := by
  refine ⟨(a % 5).toNat, ?_, by omega⟩
  rw [tmod_nn h, wi64 (by omega)]; omega
theorem kernTells (a b : TsT) {m k n f g : Int} (l r : List Int) (mild : Bool) (hA : wl a.2.2.2.1) (hB : wl b.2.2.2.1) (hm : 0 ≤ m) (hk : 0 ≤ k) (hn : 0 ≤ n) :
    F_anneallaw14_KernTells a b m k n f g l r mild = some true := by
  have un : F_anneallaw14_KernTells a b m k n f g l r mild =
    F_anneallaw14_known.bind fun r11 =>
    bif (!r11) then (some false) else
    (F_annealhelp_Light (tk a)).bind fun r12 =>
    bif (!r12) then (some true) else
    (F_annealhelp_Light (tk b)).bind fun r13 =>
    bif (!r13) then (some true) else
    bif (decide ((((List.length l) : Nat) : Int) > (30:Int))) then (some true) else
    bif (decide ((((List.length r) : Nat) : Int) > (30:Int))) then (some true) else
    (F_annealseat_Tensor (IntKind.wrap .i64 (Int.tmod m (5:Int))) (IntKind.wrap .i64 (Int.tmod k (5:Int))) (IntKind.wrap .i64 (Int.tmod f (3:Int))) (List.take (List.length l) l) mild).bind fun r14 =>
    (F_annealseat_Tensor (IntKind.wrap .i64 (Int.tmod k (5:Int))) (IntKind.wrap .i64 (Int.tmod n (5:Int))) (IntKind.wrap .i64 (Int.tmod g (3:Int))) (List.take (List.length r) r) mild).bind fun r17 =>
    (F_annealseat_Tensor (IntKind.wrap .i64 (Int.tmod m (5:Int))) (IntKind.wrap .i64 (Int.tmod k (5:Int))) (IntKind.wrap .i64 (Int.tmod f (3:Int))) (List.take (List.length l) l) mild).bind fun r20 =>
    (F_annealseat_Tensor (IntKind.wrap .i64 (Int.tmod n (5:Int))) (IntKind.wrap .i64 (Int.tmod k (5:Int))) (IntKind.wrap .i64 (Int.tmod g (3:Int))) (List.take (List.length r) r) mild).bind fun r23 =>
    (F_annealseat_Tensor (IntKind.wrap .i64 (Int.tmod k (5:Int))) (IntKind.wrap .i64 (Int.tmod m (5:Int))) (IntKind.wrap .i64 (Int.tmod f (3:Int))) (List.take (List.length l) l) mild).bind fun r26 =>
    (F_annealseat_Tensor (IntKind.wrap .i64 (Int.tmod k (5:Int))) (IntKind.wrap .i64 (Int.tmod n (5:Int))) (IntKind.wrap .i64 (Int.tmod g (3:Int))) (List.take (List.length r) r) mild).bind fun r29 =>
    TBd a b <| TBd r14 r17 <| TBd r20 r23 <| TBd r26 r29 <| some true := by kernel_rfl
  rw [un, known14]
  simp only [tk_id, Option.bind_some, Bool.not_true, cond_false, bif_dec, List.take_length]
  obtain ⟨x, hx⟩ := light_some a
  obtain ⟨y, hy⟩ := light_some b
  rw [hx, hy]
  simp only [Option.bind_some]
  cases x
  · rfl
  cases y
  · rfl
  have la := light_len hx
  have lb := light_len hy
  simp only [Bool.not_true, cond_false]
  by_cases ll : (((l.length : Nat) : Int) > 30)
  · rw [if_pos ll]
  by_cases lr : (((r.length : Nat) : Int) > 30)
  · rw [if_neg ll, if_pos lr]
  rw [if_neg ll, if_neg lr]
  obtain ⟨M, eM, hM⟩ := tmod5 hm
  obtain ⟨K, eK, hK⟩ := tmod5 hk
  obtain ⟨N, eN, hN⟩ := tmod5 hn
  rw [eM, eK, eN]
  generalize IntKind.wrap .i64 (Int.tmod f 3) = f'
  generalize IntKind.wrap .i64 (Int.tmod g 3) = g'
  obtain ⟨V1, h1, l1, w1, _⟩ := seatT M K f' l mild (by omega) (by omega) (by omega)
  obtain ⟨V2, h2, l2, w2, _⟩ := seatT K N g' r mild (by omega) (by omega) (by omega)
  obtain ⟨V3, h3, l3, w3, _⟩ := seatT N K g' r mild (by omega) (by omega) (by omega)
  obtain ⟨V4, h4, l4, w4, _⟩ := seatT K M f' l mild (by omega) (by omega) (by omega)
  rw [h1, h2, h3, h4]
  simp only [Option.bind_some]
  have b1 := rc_bd (show M ≤ 4096 by omega) (show K ≤ 4096 by omega)
  have b2 := rc_bd (show K ≤ 4096 by omega) (show N ≤ 4096 by omega)
  have b3 := rc_bd (show N ≤ 4096 by omega) (show K ≤ 4096 by omega)
  have b4 := rc_bd (show K ≤ 4096 by omega) (show M ≤ 4096 by omega)
  rw [tb_ok a b _ hA hB (by omega) (by omega), tb_ok _ _ _ (wf_wl w1) (wf_wl w2) (by simp only; omega) (by simp only; omega), tb_ok _ _ _ (wf_wl w1) (wf_wl w3) (by simp only; omega) (by simp only; omega), tb_ok _ _ _ (wf_wl w4) (wf_wl w2) (by simp only; omega) (by simp only; omega)]
theorem callKernTells : ∀ l, args [.pair (.i .i64) (.pair (.i .i64) (.pair (.i .i64) (.pair (.ints .u32) (.unit)))), .pair (.i .i64) (.pair (.i .i64) (.pair (.i .i64) (.pair (.ints .u32) (.unit)))), .i .u8, .i .u8, .i .u8, .i .u8, .i .u8, .ints .u32, .ints .u32, .b] l → oks l → CallOk PR i_anneallaw14_KernTells l [] fun r _ => r = .b true :=
  rowT (fa := fa_anneallaw14_KernTells) (F := G_anneallaw14_KernTells) rfl rfl ok_anneallaw14_KernTells (enters p_anneallaw14_KernTells (by kernel_rfl) (by kernel_rfl)) rfl fun x hx =>
    kernTells _ _ _ _ _ (wl_ok hx.1.2.2.2.1.2) (wl_ok hx.2.1.2.2.2.1.2) hx.2.2.1.1 hx.2.2.2.1.1 hx.2.2.2.2.1.1
end Go.Proofs.YtkknnloamidaiaaGreat.VI

namespace Go.Proofs.YtkknnloamidaiaaGreat.VI
set_option linter.unusedVariables false
set_option linter.unusedSimpArgs false
open Go.ChangeShapes Go.WideShapes Go.RowKit Go.WideElems YtkknnloamidaiaaGreat
set_option maxRecDepth 100000
theorem laid : laidOutB Tryz.prog = true := by kernel_rfl
theorem own : ownKnob Tryz.prog.godebug = none := by kernel_rfl
theorem lifted (os : Os) (started : os.Started) (H : Type) (enc : TypeId × Value → H) :
    ReturnsInHanded {} Tryz.checked os 4 .any (Rows.kernTellsSpec.pre6 enc Tryz.prog Tryz.f4 Rows.kernTellsRow.domain false) (Rows.kernTellsSpec.post enc Tryz.prog Tryz.f4 false true false false) :=
  lift_args (C := Tryz.checked) own started (by kernel_rfl) Tryz.func4
    (ChangeSpec.witness6 (enc := enc) (C := Tryz.checked) false ⟨#[], #[.agg #[.int .i64 0, .int .i64 0, .int .i64 0, .slice none 0 0], .agg #[.int .i64 0, .int .i64 0, .int .i64 0, .slice none 0 0], .int .u8 0, .int .u8 0, .int .u8 0, .int .u8 0, .int .u8 0, .slice none 0 0, .slice none 0 0, .bool false], []⟩ 8 (by kernel_rfl) (by kernel_rfl) (by kernel_rfl) (by kernel_rfl))
    laid Tryz.underlying4 rfl (by kernel_rfl) rfl (fun ds hd => match ds, hd with
    | [_, _, _, _, _, _, _, _, _, _], _ => rfl) (d := 6) (by kernel_rfl) (Fs := [.pair (.i .i64) (.pair (.i .i64) (.pair (.i .i64) (.pair (.ints .u32) (.unit)))), .pair (.i .i64) (.pair (.i .i64) (.pair (.i .i64) (.pair (.ints .u32) (.unit)))), .i .u8, .i .u8, .i .u8, .i .u8, .i .u8, .ints .u32, .ints .u32, .b]) (by kernel_rfl) callKernTells
theorem over : Rows.kernTellsRow.holds Tryz.pinned (OpenSpec.ofChange Rows.kernTellsSpec) :=
  OpenClaim.holds_of_wide 4 Tryz.f4 rfl rfl rfl rfl rfl rfl rfl ⟨rfl, rfl, rfl, rfl, rfl⟩ rfl rfl rfl rfl rfl (by kernel_rfl) Tryz.func4 (by kernel_rfl)
    (of_decide_eq_true (by kernel_rfl)) (by unfold Func.isWrapper; first | (rw [if_pos (by decide +kernel)]; kernel_rfl) | (rw [if_neg (by decide +kernel)]; exact ⟨rfl, rfl⟩))
    (fun os started H enc _ => lifted os started H enc)
end Go.Proofs.YtkknnloamidaiaaGreat.VI
