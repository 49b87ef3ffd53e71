import Derived.Test.YtcpicekmnkjceaaTConfigReads34
import Derived.Test.YtcpicekmnkjceaaRows
import Derived.WalkKit
import Derived.ProofKit
namespace Go.Proofs.Ytcpicekmnkjceaa.VI
set_option linter.unusedVariables false
set_option linter.unusedSimpArgs false
set_option linter.unusedSimpArgs false
set_option linter.unusedVariables false
set_option maxRecDepth 100000
set_option maxHeartbeats 4000000
abbrev ScT : Type := Int × Int × Int × Int × Unit
abbrev CfgT.min (c : CfgT) : Int := c.2.2.2.2.2.2.2.2.2.2.2.2.2.2.2.2.2.2.2.2.1
abbrev CfgT.max (c : CfgT) : Int := c.2.2.2.2.2.2.2.2.2.2.2.2.2.2.2.2.2.2.2.2.2.1
abbrev CfgT.back (c : CfgT) : Int := c.2.2.2.2.2.2.2.2.2.2.2.2.2.2.2.2.2.2.2.2.2.2.1
abbrev CfgT.grow (c : CfgT) : Int := c.2.2.2.2.2.2.2.2.2.2.2.2.2.2.2.2.2.2.2.2.2.2.2.1
abbrev CfgT.intv (c : CfgT) : Int := c.2.2.2.2.2.2.2.2.2.2.2.2.2.2.2.2.2.2.2.2.2.2.2.2.1
def scRight (c : CfgT) (s : ScT) : Prop := c.min ≤ s.1 ∧ s.1 ≤ c.max ∧ 0 ≤ s.2.1 ∧ s.2.1 < c.intv ∧ (0 ≤ s.2.2.1 ∧ s.2.2.1 ≤ 4611686018427387904) ∧ (0 ≤ s.2.2.2.1 ∧ s.2.2.2.1 ≤ 4611686018427387904) ∧ s.2.2.2.1 ≤ s.2.2.1
instance (c : CfgT) (s : ScT) : Decidable (scRight c s) := inferInstanceAs (Decidable (_ ∧ _))
theorem count_eq (n : Int) : F_scaler_count n = some (decide (0 ≤ n ∧ n ≤ 4611686018427387904)) := by
  unfold F_scaler_count
  by_cases h : 0 ≤ n <;> simp [h]
theorem right_eq (c : CfgT) (s : ScT) : F_scaler_Right c s = some (decide (scRight c s)) := by
  unfold F_scaler_Right scRight
  simp only [count_eq, Option.bind_some, bif_dec, CfgT.min, CfgT.max, CfgT.intv]
  repeat' split
  all_goals first | (refine some_t ?_; omega) | (refine some_f ?_; omega) | (refine some_dec ?_; omega)
def scGood (c : CfgT) (s : ScT) : ScT := if scRight c s then (if s.2.1 + 1 = c.intv then (min (s.1 + c.grow) c.max, 0, s.2.2.1, 0, ()) else (s.1, s.2.1 + 1, s.2.2.1, 0, ())) else s
def scSkip (c : CfgT) (s : ScT) : ScT := if scRight c s then (max (s.1 - c.back) c.min, 0, min (s.2.2.1 + 1) 4611686018427387904, min (s.2.2.2.1 + 1) 4611686018427387904, ()) else s
def cfgR (c : CfgT) : Prop := 0 ≤ c.min ∧ c.max ≤ 1000 ∧ 0 ≤ c.back ∧ c.back ≤ 1000 ∧ 0 ≤ c.grow ∧ c.grow ≤ 1000 ∧ c.intv ≤ 4611686018427387904
theorem good_eq {c : CfgT} {s : ScT} (h : cfgR c) : F_scaler_Good c s = some (scGood c s) := by
  obtain ⟨h1, h2, h3, h4, h5, h6, h7⟩ := h
  unfold F_scaler_Good scGood
  simp only [List.take_length, eta2, right_eq, Option.bind_some, bif_not, bif_dec, bif_eq]
  split
  · rename_i hr
    have hr' := hr
    obtain ⟨r1, r2, r3, r4, r5, r6, r7⟩ := hr'
    have e1 : IntKind.i64.wrap (s.2.1 + 1) = s.2.1 + 1 := wi64 (by omega)
    have e2 : IntKind.i64.wrap (s.1 + c.grow) = s.1 + c.grow := wi64 (by omega)
    simp only [e1, e2, mn_eq]
    split <;> rfl
  · rfl
theorem skip_eq {c : CfgT} {s : ScT} (h : cfgR c) : F_scaler_Skip c s = some (scSkip c s) := by
  obtain ⟨h1, h2, h3, h4, h5, h6, h7⟩ := h
  unfold F_scaler_Skip scSkip
  simp only [List.take_length, eta2, right_eq, Option.bind_some, bif_not, bif_dec, bif_eq]
  split
  · rename_i hr
    have hr' := hr
    obtain ⟨r1, r2, r3, r4, r5, r6, r7⟩ := hr'
    have e1 : IntKind.i64.wrap (s.2.2.1 + 1) = s.2.2.1 + 1 := wi64 (by omega)
    have e3 : IntKind.i64.wrap (s.2.2.2.1 + 1) = s.2.2.2.1 + 1 := wi64 (by omega)
    have e2 : IntKind.i64.wrap (s.1 - c.back) = s.1 - c.back := wi64 (by omega)
    simp only [e1, e2, e3, mn_eq, mx_eq]
  · rfl
theorem cfg_R {a b c d s : Int} (ha : 0 ≤ a ∧ a ≤ 255) (hb : 0 ≤ b ∧ b ≤ 255) (hc : 0 ≤ c ∧ c ≤ 255) (hd : 0 ≤ d ∧ d ≤ 255) : cfgR (cfg a b c d s) := by
  unfold cfgR cfg
  simp only [CfgT.min, CfgT.max, CfgT.back, CfgT.grow, CfgT.intv]
  omega
theorem begin_eq (c : CfgT) : F_scaler_Begin c = some (c.2.2.2.2.2.2.2.2.2.2.2.2.2.2.2.2.2.2.2.1, 0, 0, 0, ()) := rfl
theorem play {a b c d : Int} {l : List Bool} (ha : 0 ≤ a ∧ a ≤ 255) (hb : 0 ≤ b ∧ b ≤ 255) (hc : 0 ≤ c ∧ c ≤ 255) (hd : 0 ≤ d ∧ d ≤ 255) : F_anneallaw22_ScalerPlays a b c d l = some true := by
  unfold F_anneallaw22_ScalerPlays
  rw [bif_dec]
  split
  · rfl
  · rename_i hlen
    rw [cfg_eq ha hb hc hd]
    have hm : 0 ≤ c % (a % 25 + 1) ∧ c % (a % 25 + 1) < a % 25 + 1 := ⟨Int.emod_nonneg _ (by omega), Int.emod_lt_of_pos _ (by omega)⟩
    have hR := cfg_R (s := 1) ha hb hc hd
    have hlog : (cfg a b c d 1).min ≤ (cfg a b c d 1).2.2.2.2.2.2.2.2.2.2.2.2.2.2.2.2.2.2.2.1 ∧ (cfg a b c d 1).2.2.2.2.2.2.2.2.2.2.2.2.2.2.2.2.2.2.2.1 ≤ (cfg a b c d 1).max ∧ 0 < (cfg a b c d 1).intv := by
      unfold cfg; simp only [CfgT.min, CfgT.max, CfgT.intv]; omega
    generalize cfg a b c d 1 = C at hR hlog ⊢
    simp only [Option.bind_some, allR_true, Bool.and_true, cond_true, rowsOf_self, List.take_length, eta2]
    have key := lim_post (st := st_anneallaw22_ScalerPlays_0)
      (fun v => ∃ log run skips row i : Int, v = ((l, log, run, skips, row, i, ()), (C, ((log, run, skips, row, ()), ()))) ∧ 0 ≤ i ∧ i ≤ l.length ∧ C.min ≤ log ∧ log ≤ C.max ∧ 0 ≤ run ∧ run < C.intv ∧ 0 ≤ skips ∧ skips ≤ i ∧ 0 ≤ row ∧ row ≤ skips)
      (fun v => (v.1.1.length - v.1.2.2.2.2.2.1).toNat) (fun e => e = Sum.inl ((), ())) ?_ ((l, C.2.2.2.2.2.2.2.2.2.2.2.2.2.2.2.2.2.2.2.1, 0, 0, 0, 0, ()), (C, ((C.2.2.2.2.2.2.2.2.2.2.2.2.2.2.2.2.2.2.2.1, 0, 0, 0, ()), ())))
      ⟨_, 0, 0, 0, 0, rfl, by omega, by omega, hlog.1, hlog.2.1, by omega, hlog.2.2, by omega, by omega, by omega, by omega⟩
    · obtain ⟨e, h1, rfl⟩ := key
      have h1' : lim st_anneallaw22_ScalerPlays_0 ((l, C.2.2.2.2.2.2.2.2.2.2.2.2.2.2.2.2.2.2.2.1, 0, 0, 0, 0, ()), (C, ((C.2.2.2.2.2.2.2.2.2.2.2.2.2.2.2.2.2.2.2.1, 0, 0, 0, ()), ()))) = some (Sum.inl ((), ())) := h1
      show ((lim st_anneallaw22_ScalerPlays_0 ((l, C.2.2.2.2.2.2.2.2.2.2.2.2.2.2.2.2.2.2.2.1, 0, 0, 0, 0, ()), (C, ((C.2.2.2.2.2.2.2.2.2.2.2.2.2.2.2.2.2.2.2.1, 0, 0, 0, ()), ())))).bind _) = _
      rw [h1']; rfl
    · rintro _ ⟨log, run, skips, row, i, rfl, i1, i2, q1, q2, q3, q4, q5, q6, q7, q8⟩
      have hR' := hR
      obtain ⟨h1, h2, h3, h4, h5, h6, h7⟩ := hR'
      by_cases hi : i < l.length
      · have hs : scRight C (log, run, skips, row, ()) := ⟨q1, q2, q3, q4, ⟨q5, by simp only; omega⟩, ⟨q7, by simp only; omega⟩, q8⟩
        have w1 : IntKind.i64.wrap (i + 1) = i + 1 := wi64 (by omega)
        have w2 : IntKind.i64.wrap (run + 1) = run + 1 := wi64 (by omega)
        have w3 : IntKind.i64.wrap (log + C.grow) = log + C.grow := wi64 (by omega)
        have w4 : IntKind.i64.wrap (log - C.back) = log - C.back := wi64 (by omega)
        have w5 : IntKind.i64.wrap (skips + 1) = skips + 1 := wi64 (by omega)
        have w6 : IntKind.i64.wrap (row + 1) = row + 1 := wi64 (by omega)
        left
        cases hb : (l.getD i.toNat false) with
        | true =>
          by_cases he : run + 1 = C.intv
          · have hr2 : scRight C (min (log + C.grow) C.max, 0, skips, 0, ()) := ⟨by simp only; omega, by simp only; omega, by simp only; omega, by simp only; omega, ⟨by simp only; omega, by simp only; omega⟩, ⟨by simp only; omega, by simp only; omega⟩, by simp only; omega⟩
            refine ⟨((l, min (log + C.grow) C.max, 0, skips, 0, i + 1, ()), (C, ((min (log + C.grow) C.max, 0, skips, 0, ()), ()))), fun R kn ko => ?_, ⟨_, _, _, _, _, rfl, by omega, by omega, by omega, by omega, by omega, by omega, by omega, by omega, by omega, by omega⟩, by simp only; omega⟩
            simp only [st_anneallaw22_ScalerPlays_0, hi, i1, decide_true, and_self, cond_true, hb, List.take_length, eta2, good_eq hR, right_eq, Option.bind_some, w1, w2, w3, allR_true, rowsOf_self, mn_eq, Bool.and_true]
            simp [scGood, hs, he, hr2]
          · have hr2 : scRight C (log, run + 1, skips, 0, ()) := ⟨q1, q2, by simp only; omega, by simp only; omega, ⟨by simp only; omega, by simp only; omega⟩, ⟨by simp only; omega, by simp only; omega⟩, by simp only; omega⟩
            refine ⟨((l, log, run + 1, skips, 0, i + 1, ()), (C, ((log, run + 1, skips, 0, ()), ()))), fun R kn ko => ?_, ⟨_, _, _, _, _, rfl, by omega, by omega, by omega, by omega, by omega, by omega, by omega, by omega, by omega, by omega⟩, by simp only; omega⟩
            simp only [st_anneallaw22_ScalerPlays_0, hi, i1, decide_true, and_self, cond_true, hb, List.take_length, eta2, good_eq hR, right_eq, Option.bind_some, w1, w2, w3, allR_true, rowsOf_self, mn_eq, Bool.and_true]
            have hf : (run + 1 == C.2.2.2.2.2.2.2.2.2.2.2.2.2.2.2.2.2.2.2.2.2.2.2.2.1) = false := by simpa using he
            simp [scGood, hs, he, hf, hr2]
        | false =>
          have hr2 : scRight C (max (log - C.back) C.min, 0, skips + 1, row + 1, ()) := ⟨by simp only; omega, by simp only; omega, by simp only; omega, by simp only; omega, ⟨by simp only; omega, by simp only; omega⟩, ⟨by simp only; omega, by simp only; omega⟩, by simp only; omega⟩
          refine ⟨((l, max (log - C.back) C.min, 0, skips + 1, row + 1, i + 1, ()), (C, ((max (log - C.back) C.min, 0, skips + 1, row + 1, ()), ()))), fun R kn ko => ?_, ⟨_, _, _, _, _, rfl, by omega, by omega, by omega, by omega, by omega, by omega, by omega, by omega, by omega, by omega⟩, by simp only; omega⟩
          have m1 : min (skips + 1) 4611686018427387904 = skips + 1 := by omega
          have m2 : min (row + 1) 4611686018427387904 = row + 1 := by omega
          simp only [st_anneallaw22_ScalerPlays_0, hi, i1, decide_true, and_self, cond_true, cond_false, hb, List.take_length, eta2, skip_eq hR, right_eq, Option.bind_some, w1, w4, w5, w6, allR_true, rowsOf_self, mx_eq, Bool.and_true]
          simp [scSkip, hs, hr2, m1, m2]
      · right
        refine ⟨_, fun R kn ko => ?_, rfl⟩
        simp only [st_anneallaw22_ScalerPlays_0, hi, decide_false, cond_false]
end Go.Proofs.Ytcpicekmnkjceaa.VI

namespace Go.Proofs.Ytcpicekmnkjceaa.VI
set_option linter.unusedVariables false
set_option linter.unusedSimpArgs false
set_option maxRecDepth 100000
set_option linter.unusedSimpArgs false
set_option linter.unusedVariables false
noncomputable def O_anneallaw24_known : Orc := (orm c_annealseat_Config (orm c_config_Put (orm c_config_Read (orm c_config_Same (orm c_config_Check c_config_Params)))))
theorem okO_anneallaw24_known : OrcOk PR O_anneallaw24_known := (orm_ok ok_annealseat_Config (orm_ok ok_config_Put (orm_ok ok_config_Read (orm_ok ok_config_Same (orm_ok ok_config_Check ok_config_Params)))))
abbrev fa_anneallaw24_known : Fm := .unit
abbrev ha_anneallaw24_known : List BF := []
abbrev fr_anneallaw24_known : Fm := .b
abbrev hr_anneallaw24_known : List BF := []
noncomputable def L_anneallaw24_known : Lps := L0
def inn_anneallaw24_known : T fr_anneallaw24_known → TH hr_anneallaw24_known → Bool := (fun z w => z)
def out_anneallaw24_known : Bool → T fr_anneallaw24_known × TH hr_anneallaw24_known := fun r => (r, ())
noncomputable def F_anneallaw24_known  : Option (Bool) :=
  ((F_config_Put ([(3:Int), (2:Int), (2:Int)], ((0:Int), ((2:Int), ((0:Int), ((0:Int), ((0:Int), ((981668463:Int), ((0:Int), ((1065336439:Int), ((841731191:Int), ((0:Int), ((1065353216:Int), ((1:Int), ((6:Int), ((1:Int), ((1:Int), ((5:Int), ((0:Int), (false, ((3:Int), ((2:Int), ((3:Int), ((3:Int), ((2:Int), ((2:Int), ((1:Int), ())))))))))))))))))))))))))))).bind fun r0 =>
  let x1 : List Int := (List.take (List.length r0.1) r0.1)
  ((F_config_Read x1)).bind fun r2 =>
  bif (decide (((1:Nat) + (List.length r0.1)) ≤ (1073741824:Nat))) then
    ((F_config_Read (List.take ((1:Nat) + (List.length r0.1)) ((1:Int) :: (List.append._f [] () x1))))).bind fun r3 =>
    bif (r0.2.1 == (0:Int)) then
      bif (r2.2.1 == (0:Int)) then
        ((F_config_Same ((List.take (List.length r2.1.1) r2.1.1), r2.1.2) ([(3:Int), (2:Int), (2:Int)], ((0:Int), ((2:Int), ((0:Int), ((0:Int), ((0:Int), ((981668463:Int), ((0:Int), ((1065336439:Int), ((841731191:Int), ((0:Int), ((1065353216:Int), ((1:Int), ((6:Int), ((1:Int), ((1:Int), ((5:Int), ((0:Int), (false, ((3:Int), ((2:Int), ((3:Int), ((3:Int), ((2:Int), ((2:Int), ((1:Int), ())))))))))))))))))))))))))))).bind fun r4 =>
        bif r4 then
          bif (r3.2.1 == (20:Int)) then
            ((F_config_Params ([(3:Int), (2:Int), (2:Int)], ((0:Int), ((2:Int), ((0:Int), ((0:Int), ((0:Int), ((981668463:Int), ((0:Int), ((1065336439:Int), ((841731191:Int), ((0:Int), ((1065353216:Int), ((1:Int), ((6:Int), ((1:Int), ((1:Int), ((5:Int), ((0:Int), (false, ((3:Int), ((2:Int), ((3:Int), ((3:Int), ((2:Int), ((2:Int), ((1:Int), ())))))))))))))))))))))))))))).bind fun r5 =>
            (some (decide (r5 > (0:Int))))
          else
            (some false)
        else
          (some false)
      else
        (some false)
    else
      (some false)
  else
    none
noncomputable def G_anneallaw24_known : T fa_anneallaw24_known → TH ha_anneallaw24_known → Option (Bool) := fun x y => F_anneallaw24_known 
noncomputable def c_anneallaw24_known : Orc := ent i_anneallaw24_known [] 0 (sp fa_anneallaw24_known ha_anneallaw24_known fr_anneallaw24_known hr_anneallaw24_known G_anneallaw24_known out_anneallaw24_known)
theorem ok_anneallaw24_known : OrcOk PR c_anneallaw24_known := fnT okO_anneallaw24_known mixed p_anneallaw24_known (by kernel_rfl) (by kernel_rfl) (L := L_anneallaw24_known) (kp := false) (by kernel_rfl) (inn := inn_anneallaw24_known) (out := out_anneallaw24_known) (fun _ _ => rfl) (loopsL (l := []) (by kernel_rfl) trivial) (fun x y => by kernel_rfl)
end Go.Proofs.Ytcpicekmnkjceaa.VI

namespace Go.Proofs.Ytcpicekmnkjceaa.VI
set_option linter.unusedVariables false
set_option linter.unusedSimpArgs false
set_option linter.unusedSimpArgs false
set_option linter.unusedVariables false
set_option maxRecDepth 100000
set_option maxHeartbeats 4000000
theorem gdP {l : List Int} {P : Int → Prop} (h : ∀ e ∈ l, P e) (h0 : P 0) (k : Nat) : P (l.getD k 0) := by
  rw [List.getD_eq_getElem?_getD]
  cases hl : l[k]? with
  | none => exact h0
  | some e => exact h e (List.mem_of_getElem? hl)
theorem u8R {a : Int} (h : 0 ≤ a ∧ a ≤ 255) : a % 6 = 0 ∨ a % 6 = 1 ∨ a % 6 = 2 ∨ a % 6 = 3 ∨ a % 6 = 4 ∨ a % 6 = 5 := by omega
theorem small (w : List Int) (h : (w.length = 2 ∨ w.length = 3 ∨ w.length = 4)) (h2 : ∀ e ∈ w, 1 ≤ e ∧ e ≤ 4) : wok w ∧ pr w (w.length - 1) ≤ 65536 ∧ ∀ B : Int, 1 ≤ B ∧ B ≤ 4 → ∀ j, j < w.length → B * w.getD j 0 ≤ 262144 := by
  have hj : ∀ j, j < w.length → 1 ≤ w.getD j 0 ∧ w.getD j 0 ≤ 4 := fun j hj => by
    rw [List.getD_eq_getElem?_getD, List.getElem?_eq_getElem hj]
    exact h2 _ (List.getElem_mem hj)
  refine ⟨⟨by omega, by omega, fun j k => by have := hj j k; omega⟩, ?_, fun B hB j k => ?_⟩
  · have hb : ∀ i, i < w.length → 0 ≤ pr w i ∧ pr w i ≤ i * 20 := by
      intro i
      induction i with
      | zero => intro _; simp [pr]
      | succ i ih =>
        intro hi
        have := ih (by omega)
        have k1 := hj i (by omega)
        have k2 := hj (i + 1) hi
        have m1 := Int.mul_le_mul (a := w.getD i 0 + 1) (b := w.getD (i + 1) 0) (c := 5) (d := 4) (by omega) k2.2 (by omega) (by omega)
        have m2 : 0 ≤ (w.getD i 0 + 1) * w.getD (i + 1) 0 := Int.mul_nonneg (by omega) (by omega)
        simp only [pr]; push_cast; omega
    have := hb (w.length - 1) (by omega)
    omega
  · have k2 := hj j k
    have m1 := Int.mul_le_mul (a := B) (b := w.getD j 0) (c := 4) (d := 4) (by omega) k2.2 (by omega) (by omega)
    omega
theorem wlist_small (k : Int) : ((wlist k).length = 2 ∨ (wlist k).length = 3 ∨ (wlist k).length = 4) ∧ ∀ e ∈ wlist k, 1 ≤ e ∧ e ≤ 4 := by
  unfold wlist
  split; · exact ⟨by decide, by decide⟩
  split; · exact ⟨by decide, by decide⟩
  split; · exact ⟨by decide, by decide⟩
  split; · exact ⟨by decide, by decide⟩
  split; · exact ⟨by decide, by decide⟩
  exact ⟨by decide, by decide⟩
theorem cfg_W {a b c d s : Int} (hs : 0 ≤ s ∧ s < 18446744073709551616) : cW (cfg a b c d s) := by
  refine ⟨⟨?_, ?_, ?_, ?_, ?_, ?_⟩, hs, ?_⟩
  · exact gdP (P := u32R) (by decide) (by decide) _
  · exact gdP (P := u32R) (by decide) (by decide) _
  · exact gdP (P := u32R) (by decide) (by decide) _
  · exact gdP (P := u32R) (by decide) (by decide) _
  · exact gdP (P := u32R) (by decide) (by decide) _
  · exact gdP (P := u32R) (by decide) (by decide) _
  · exact gdP (P := fun e => 0 ≤ e) (by decide) (by decide) _
theorem cfg_right {a b c d s : Int} (ha : 0 ≤ a ∧ a ≤ 255) (hb : 0 ≤ b ∧ b ≤ 255) (hc : 0 ≤ c ∧ c ≤ 255) (hd : 0 ≤ d ∧ d ≤ 255) : right (cfg a b c d s) := by
  obtain ⟨h1, h2⟩ := wlist_small (a % 6)
  obtain ⟨k1, k2, k3⟩ := small _ h1 h2
  have hm : 0 ≤ c % (a % 25 + 1) ∧ c % (a % 25 + 1) < a % 25 + 1 := ⟨Int.emod_nonneg _ (by omega), Int.emod_lt_of_pos _ (by omega)⟩
  refine ⟨k1, k2, ?_, ?_, ?_, k3 _ ?_⟩
  · simp only [kindsP, cfg, CfgT.f, CfgT.act, CfgT.loss, CfgT.opt, CfgT.sched]; omega
  · refine ⟨gdP (P := fun e => e < fInf) (by decide) (by decide) _, gdP (P := fun e => e < 1065353216) (by decide) (by decide) _, gdP (P := fun e => e < 1065353216) (by decide) (by decide) _, ⟨?_, gdP (P := fun e => e < fInf) (by decide) (by decide) _⟩, gdP (P := fun e => e < fInf) (by decide) (by decide) _, gdP (P := fun e => e < fInf) (by decide) (by decide) _⟩
    have : c / 24 % 2 = 0 ∨ c / 24 % 2 = 1 := by omega
    simp only [cfg, CfgT.eps]
    rcases this with h | h <;> rw [h] <;> decide
  · have hdr : (cfg a b c d s).drop < 2147483648 := gdP (P := fun e => e < 2147483648) (by decide) (by decide) _
    refine ⟨?_, ?_, ?_, ?_, ?_, ?_, ?_, ?_, ?_, ?_, ?_, hdr⟩
    all_goals simp only [cfg, CfgT.total, CfgT.warm, CfgT.batch, CfgT.accum, CfgT.ma, CfgT.mi, CfgT.log, CfgT.bk, CfgT.gr, CfgT.itv, CfgT.save]
    all_goals omega
  · simp only [cfg, CfgT.batch]; omega
theorem not_isE {b : List Int} {c : CfgT} (h : b.getD 0 0 ≠ 65) : ¬ isE b c := by
  intro k
  have := (isE_len k).2.1
  cases b with
  | nil => simp at this
  | cons x l => simp at this h; exact h this.1
theorem enc_read {c : CfgT} (hr : right c) (hc : cW c) : F_config_Read (enc_ c) = some (c, 0, ()) := by
  rw [cread (enc_byt hr) (by rw [enc_len]; have : c.1.length ≤ 65 := hr.1.2.1; simp only [CfgT.w]; omega), rd_enc hr hc]
def cfg0 : CfgT := ([3, 2, 2], 0, 2, 0, 0, 0, 981668463, 0, 1065336439, 841731191, 0, 1065353216, 1, 6, 1, 1, 5, 0, false, 3, 2, 3, 3, 2, 2, 1, ())
theorem cfg0_eq : cfg0 = cfg 1 2 3 4 5 := by kernel_rfl
theorem known_eq : F_anneallaw24_known = some true := by
  have hr : right cfg0 := cfg0_eq ▸ cfg_right (by omega) (by omega) (by omega) (by omega)
  have hc : cW cfg0 := cfg0_eq ▸ cfg_W (by omega)
  have hput : F_config_Put ([3, 2, 2], 0, 2, 0, 0, 0, 981668463, 0, 1065336439, 841731191, 0, 1065353216, 1, 6, 1, 1, 5, 0, false, 3, 2, 3, 3, 2, 2, 1, ()) = some (enc_ cfg0, 0, ()) := by
    show F_config_Put cfg0 = _
    rw [cput_eq hc.1 hc.2, if_pos hr]
  have hlen : (enc_ cfg0).length = 82 := by rw [enc_len]; rfl
  have h1 : F_config_Read (List.take (1 + 82) (1 :: List.append._f [] () (enc_ cfg0))) = some (zCfg, 20, ()) := by
    have e : List.take (1 + 82) (1 :: List.append._f [] () (enc_ cfg0)) = 1 :: enc_ cfg0 := by
      show List.take (1 + 82) (1 :: enc_ cfg0) = _
      exact List.take_of_length_le (by simp [hlen])
    rw [e, cread ?_ (by simp [hlen])]
    · unfold rd; rw [if_neg (not_isE (by simp))]
    · intro i
      cases i with
      | zero => simp
      | succ i => simpa using enc_byt hr i
  have hs : F_config_Same cfg0 ([3, 2, 2], 0, 2, 0, 0, 0, 981668463, 0, 1065336439, 841731191, 0, 1065353216, 1, 6, 1, 1, 5, 0, false, 3, 2, 3, 3, 2, 2, 1, ()) = some true := by
    rw [same_eq _ _ (by decide)]; exact congrArg some (decide_eq_true rfl)
  have hp : F_config_Params ([3, 2, 2], 0, 2, 0, 0, 0, 981668463, 0, 1065336439, 841731191, 0, 1065353216, 1, 6, 1, 1, 5, 0, false, 3, 2, 3, 3, 2, 2, 1, ()) = some 14 := by
    show F_config_Params cfg0 = _
    rw [cparams_eq hc.1, if_pos hr]; rfl
  unfold F_anneallaw24_known
  rw [hput]
  simp only [Option.bind_some, List.take_length, enc_read hr hc, hlen, h1, eta2]
  rw [hs, hp]
  rfl
end Go.Proofs.Ytcpicekmnkjceaa.VI

namespace Go.Proofs.Ytcpicekmnkjceaa.VI
set_option linter.unusedVariables false
set_option linter.unusedSimpArgs false
set_option maxRecDepth 100000
set_option linter.unusedSimpArgs false
set_option linter.unusedVariables false
noncomputable def O_anneallaw24_ConfigReads : Orc := (orm c_anneallaw24_known (orm c_annealseat_Config (orm c_annealref24_Put (orm c_config_Read (orm c_annealref24_Read c_annealhelp_Config)))))
theorem okO_anneallaw24_ConfigReads : OrcOk PR O_anneallaw24_ConfigReads := (orm_ok ok_anneallaw24_known (orm_ok ok_annealseat_Config (orm_ok ok_annealref24_Put (orm_ok ok_config_Read (orm_ok ok_annealref24_Read ok_annealhelp_Config)))))
abbrev fa_anneallaw24_ConfigReads : Fm := (.pair (.si .u8) (.pair (.i .u8) (.pair (.i .u8) (.pair (.i .u8) (.pair (.i .u8) (.pair (.i .u16) (.pair (.i .u8) (.pair (.i .u8) .unit))))))))
abbrev ha_anneallaw24_ConfigReads : List BF := []
abbrev fr_anneallaw24_ConfigReads : Fm := .b
abbrev hr_anneallaw24_ConfigReads : List BF := []
noncomputable def L_anneallaw24_ConfigReads : Lps := (lpB 15 (.un 4 [73, 74, 75]) L0)
def inn_anneallaw24_ConfigReads : T fr_anneallaw24_ConfigReads → TH hr_anneallaw24_ConfigReads → Bool := (fun z w => z)
def out_anneallaw24_ConfigReads : Bool → T fr_anneallaw24_ConfigReads × TH hr_anneallaw24_ConfigReads := fun r => (r, ())
noncomputable def F_anneallaw24_ConfigReads (a0 : List Int) (a1 : Int) (a2 : Int) (a3 : Int) (a4 : Int) (a5 : Int) (a6 : Int) (a7 : Int) : Option (Bool) :=
  let x0 : List Int := (List.take (List.length a0) a0)
  (F_anneallaw24_known).bind fun r1 =>
  bif (!r1) then
    (some false)
  else
    bif (decide ((((List.length a0) : Nat) : Int) > (200:Int))) then
      (some true)
    else
      ((F_annealseat_Config a1 a2 a3 a4 (9:Int))).bind fun r2 =>
      ((F_annealref24_Put ((List.take (List.length r2.1) r2.1), r2.2))).bind fun r3 =>
      let x4 : Nat := ((0:Nat) + (List.length r3.1))
      let x5 : Int := ((x4 : Nat) : Int)
      let x6 : Bool := (x5 == (0:Int))
      let x7 : List Int := (List.take (List.length r3.1) r3.1)
      let x8 : List Int := ([] ++ x7)
      let x9 : Nat := (Int.toNat (Int.tmod (IntKind.wrap .i64 a5) x5))
      let x10 : Nat := ((0:Nat) + (x9 * (1:Nat)))
      let x11 : List Int := (List.take x4 (List.drop (0:Nat) (List.set x8 x10 (bits .xor .u8 (List.getD x8 x10 (0:Int)) a6))))
      let x12 : List Int := (List.take (x9 - (0:Nat)) (List.drop (0:Nat) x8))
      let x13 : List Int := (List.take (x4 + (1:Nat)) (List.drop (0:Nat) ((List.take x4 x8) ++ [a6])))
      bif (decide (x4 ≤ (1073741824:Nat))) then
        bif ((Int.tmod a7 (3:Int)) == (0:Int)) then
          bif x6 then
            none
          else
            bif (decide (((0:Int) ≤ (Int.tmod (IntKind.wrap .i64 a5) x5)) ∧ ((Int.tmod (IntKind.wrap .i64 a5) x5) < x5))) then
              bif (decide (x10 < (List.length x8))) then
                bif (decide (((0:Int) ≤ (Int.tmod (IntKind.wrap .i64 a5) x5)) ∧ ((Int.tmod (IntKind.wrap .i64 a5) x5) < x5))) then
                  bif (decide (x10 < (List.length x8))) then
                    ((F_config_Read x0)).bind fun r14 =>
                    ((F_annealref24_Read x0)).bind fun r15 =>
                    bif (r14.2.1 != r15.2.1) then
                      (some false)
                    else
                      ((F_annealhelp_Config ((List.take (List.length r14.1.1) r14.1.1), r14.1.2) ((List.take (List.length r15.1.1) r15.1.1), r15.1.2))).bind fun r16 =>
                      bif (!r16) then
                        (some false)
                      else
                        ((F_config_Read x7)).bind fun r17 =>
                        ((F_annealref24_Read x7)).bind fun r18 =>
                        bif (r17.2.1 != r18.2.1) then
                          (some false)
                        else
                          ((F_annealhelp_Config ((List.take (List.length r17.1.1) r17.1.1), r17.1.2) ((List.take (List.length r18.1.1) r18.1.1), r18.1.2))).bind fun r19 =>
                          bif (!r19) then
                            (some false)
                          else
                            ((F_config_Read x11)).bind fun r20 =>
                            ((F_annealref24_Read x11)).bind fun r21 =>
                            bif (r20.2.1 != r21.2.1) then
                              (some false)
                            else
                              ((F_annealhelp_Config ((List.take (List.length r20.1.1) r20.1.1), r20.1.2) ((List.take (List.length r21.1.1) r21.1.1), r21.1.2))).bind fun r22 =>
                              bif (!r22) then
                                (some false)
                              else
                                (some true)
                  else
                    none
                else
                  none
              else
                none
            else
              none
        else
          bif ((Int.tmod a7 (3:Int)) == (1:Int)) then
            bif x6 then
              none
            else
              bif (decide (((0:Int) ≤ (0:Int)) ∧ (((0:Int) ≤ (Int.tmod (IntKind.wrap .i64 a5) x5)) ∧ ((Int.tmod (IntKind.wrap .i64 a5) x5) ≤ x5)))) then
                ((F_config_Read x0)).bind fun r23 =>
                ((F_annealref24_Read x0)).bind fun r24 =>
                bif (r23.2.1 != r24.2.1) then
                  (some false)
                else
                  ((F_annealhelp_Config ((List.take (List.length r23.1.1) r23.1.1), r23.1.2) ((List.take (List.length r24.1.1) r24.1.1), r24.1.2))).bind fun r25 =>
                  bif (!r25) then
                    (some false)
                  else
                    ((F_config_Read x7)).bind fun r26 =>
                    ((F_annealref24_Read x7)).bind fun r27 =>
                    bif (r26.2.1 != r27.2.1) then
                      (some false)
                    else
                      ((F_annealhelp_Config ((List.take (List.length r26.1.1) r26.1.1), r26.1.2) ((List.take (List.length r27.1.1) r27.1.1), r27.1.2))).bind fun r28 =>
                      bif (!r28) then
                        (some false)
                      else
                        ((F_config_Read x12)).bind fun r29 =>
                        ((F_annealref24_Read x12)).bind fun r30 =>
                        bif (r29.2.1 != r30.2.1) then
                          (some false)
                        else
                          ((F_annealhelp_Config ((List.take (List.length r29.1.1) r29.1.1), r29.1.2) ((List.take (List.length r30.1.1) r30.1.1), r30.1.2))).bind fun r31 =>
                          bif (!r31) then
                            (some false)
                          else
                            (some true)
              else
                none
          else
            bif (decide ((x4 + (1:Nat)) ≤ (1073741824:Nat))) then
              ((F_config_Read x0)).bind fun r32 =>
              ((F_annealref24_Read x0)).bind fun r33 =>
              bif (r32.2.1 != r33.2.1) then
                (some false)
              else
                ((F_annealhelp_Config ((List.take (List.length r32.1.1) r32.1.1), r32.1.2) ((List.take (List.length r33.1.1) r33.1.1), r33.1.2))).bind fun r34 =>
                bif (!r34) then
                  (some false)
                else
                  ((F_config_Read x7)).bind fun r35 =>
                  ((F_annealref24_Read x7)).bind fun r36 =>
                  bif (r35.2.1 != r36.2.1) then
                    (some false)
                  else
                    ((F_annealhelp_Config ((List.take (List.length r35.1.1) r35.1.1), r35.1.2) ((List.take (List.length r36.1.1) r36.1.1), r36.1.2))).bind fun r37 =>
                    bif (!r37) then
                      (some false)
                    else
                      ((F_config_Read x13)).bind fun r38 =>
                      ((F_annealref24_Read x13)).bind fun r39 =>
                      bif (r38.2.1 != r39.2.1) then
                        (some false)
                      else
                        ((F_annealhelp_Config ((List.take (List.length r38.1.1) r38.1.1), r38.1.2) ((List.take (List.length r39.1.1) r39.1.1), r39.1.2))).bind fun r40 =>
                        bif (!r40) then
                          (some false)
                        else
                          (some true)
            else
              none
      else
        none
noncomputable def G_anneallaw24_ConfigReads : T fa_anneallaw24_ConfigReads → TH ha_anneallaw24_ConfigReads → Option (Bool) := fun x y => F_anneallaw24_ConfigReads x.1 x.2.1 x.2.2.1 x.2.2.2.1 x.2.2.2.2.1 x.2.2.2.2.2.1 x.2.2.2.2.2.2.1 x.2.2.2.2.2.2.2.1
noncomputable def c_anneallaw24_ConfigReads : Orc := ent i_anneallaw24_ConfigReads [] 0 (sp fa_anneallaw24_ConfigReads ha_anneallaw24_ConfigReads fr_anneallaw24_ConfigReads hr_anneallaw24_ConfigReads G_anneallaw24_ConfigReads out_anneallaw24_ConfigReads)
theorem ok_anneallaw24_ConfigReads : OrcOk PR c_anneallaw24_ConfigReads := fnT okO_anneallaw24_ConfigReads mixed p_anneallaw24_ConfigReads (by kernel_rfl) (by kernel_rfl) (L := L_anneallaw24_ConfigReads) (kp := false) (by kernel_rfl) (inn := inn_anneallaw24_ConfigReads) (out := out_anneallaw24_ConfigReads) (fun _ _ => rfl) (loopsL (l := []) (by kernel_rfl) trivial) (fun x y => by kernel_rfl)
end Go.Proofs.Ytcpicekmnkjceaa.VI

namespace Go.Proofs.Ytcpicekmnkjceaa.VI
set_option linter.unusedVariables false
set_option linter.unusedSimpArgs false
set_option linter.unusedSimpArgs false
set_option linter.unusedVariables false
set_option maxRecDepth 100000
set_option maxHeartbeats 4000000
theorem rd_len {xs : List Int} (h : byt xs) : (rd xs).1.1.length ≤ 1073741824 := by
  unfold rd
  split
  · show (wdec xs (nW xs)).length ≤ _
    rw [wdec_len]; have := (nW_bd h).1; omega
  · simp [zCfg]
theorem chk2 {α : Type} {xs : List Int} (h : byt xs) (hL : xs.length ≤ 1073741824) {K : Option α} {f : α} :
    ((F_config_Read xs).bind fun r => (F_annealref24_Read xs).bind fun s => bif (r.2.1 != s.2.1) then (some f) else
      (F_annealhelp_Config r.1 s.1).bind fun t => bif (!t) then (some f) else K) = K := by
  rw [cread h hL, rread h hL]
  simp only [Option.bind_some, bne_self_eq_false, cond_false, List.take_length, eta2]
  rw [hcfg_eq _ _ (rd_len h)]
  simp
end Go.Proofs.Ytcpicekmnkjceaa.VI
namespace Go.Proofs.Ytcpicekmnkjceaa.VI
set_option linter.unusedVariables false
set_option linter.unusedSimpArgs false
theorem xor8 (x y : Int) : 0 ≤ bits .xor .u8 x y ∧ bits .xor .u8 x y < 256 := by
  unfold bits
  have := wu8_eq
  simp only [wu8_eq]; omega
theorem byt_set {l : List Int} (h : byt l) (j : Nat) {v : Int} (hv : 0 ≤ v ∧ v < 256) : byt (l.set j v) := fun i => by
  rw [List.getD_eq_getElem?_getD, List.getElem?_set]
  split
  · split
    · exact hv
    · simp
  · have := h i; rwa [List.getD_eq_getElem?_getD] at this
theorem byt_take {l : List Int} (h : byt l) (n : Nat) : byt (l.take n) := fun i => by
  rw [List.getD_eq_getElem?_getD, List.getElem?_take]
  split
  · have := h i; rwa [List.getD_eq_getElem?_getD] at this
  · simp
theorem byt_snoc {l : List Int} (h : byt l) {v : Int} (hv : 0 ≤ v ∧ v < 256) : byt (l ++ [v]) := fun i => by
  rw [List.getD_eq_getElem?_getD, List.getElem?_append]
  split
  · have := h i; rwa [List.getD_eq_getElem?_getD] at this
  · cases hk : i - l.length with
    | zero => simpa using hv
    | succ n => simp
theorem reads {raw : List Int} {a b c d at_ x how : Int} (hraw : byt raw) (ha : 0 ≤ a ∧ a ≤ 255) (hb : 0 ≤ b ∧ b ≤ 255) (hc : 0 ≤ c ∧ c ≤ 255) (hd : 0 ≤ d ∧ d ≤ 255) (hat : 0 ≤ at_ ∧ at_ ≤ 65535) (hx : 0 ≤ x ∧ x ≤ 255) (hh : 0 ≤ how ∧ how ≤ 255) :
    F_anneallaw24_ConfigReads raw a b c d at_ x how = some true := by
  unfold F_anneallaw24_ConfigReads
  simp only [known_eq, Option.bind_some, Bool.not_true, cond_false, List.take_length]
  rw [bif_dec]
  split
  · rfl
  rename_i hl
  have hr : right (cfg a b c d 9) := cfg_right ha hb hc hd
  have hW : cW (cfg a b c d 9) := cfg_W (by omega)
  rw [cfg_eq ha hb hc hd]
  simp only [Option.bind_some, List.take_length, eta2]
  rw [rput_eq hW.1 hW.2, if_pos hr]
  have hE := enc_byt hr
  have hel : (enc_ (cfg a b c d 9)).length ≤ 206 := by rw [enc_len]; have : (cfg a b c d 9).w.length ≤ 65 := hr.1.2.1; omega
  have he0 : 76 ≤ (enc_ (cfg a b c d 9)).length := by rw [enc_len]; omega
  generalize enc_ (cfg a b c d 9) = E at hE hel he0 ⊢
  simp only [Option.bind_some, List.take_length, Nat.zero_add, List.nil_append, Nat.mul_one, List.drop_zero, Nat.sub_zero]
  have w : IntKind.i64.wrap at_ = at_ := wi64 (by omega)
  have hm : 0 ≤ at_ % (E.length : Int) ∧ at_ % (E.length : Int) < (E.length : Int) := ⟨Int.emod_nonneg _ (by omega), Int.emod_lt_of_pos _ (by omega)⟩
  have hz : ((E.length : Int) == 0) = false := by
    cases E with
    | nil => simp at he0
    | cons e l => rfl
  have hj : (at_ % (E.length : Int)).toNat < E.length := by omega
  have hn : E.length ≤ 1073741824 := by omega
  have hn1 : E.length + 1 ≤ 1073741824 := by omega
  have hm2 : (0 : Int) ≤ 0 ∧ 0 ≤ at_ % (E.length : Int) ∧ at_ % (E.length : Int) ≤ (E.length : Int) := by omega
  simp only [w, tmod_nn hat.1, tmod_nn hh.1, hz, cond_false, bif_dec, bif_eq]
  rw [if_pos hn]
  split
  · try rw [if_pos hm]
    try rw [if_pos hj]
    try rw [if_pos hm]
    try rw [if_pos hj]
    have hl2 : (E.set (at_ % (E.length : Int)).toNat (bits .xor .u8 (E.getD (at_ % (E.length : Int)).toNat 0) x)).length = E.length := by simp
    rw [chk2 hraw (by omega), chk2 hE (by omega), chk2 (byt_take (byt_set hE _ (xor8 _ _)) _) (by simp; omega)]
  · split
    · try rw [if_pos hm2]
      rw [chk2 hraw (by omega), chk2 hE (by omega), chk2 (byt_take hE _) (by simp; omega)]
    · try rw [if_pos hn1]
      rw [chk2 hraw (by omega), chk2 hE (by omega), chk2 (byt_take (byt_snoc hE (by omega)) _) (by simp; omega)]
theorem byt_ok {l : List Int} (h : ∀ e ∈ l, inR .u8 e) : byt l := byt_mem fun e he => by
  have := h e he
  simp only [inR, IntKind.min, IntKind.max, IntKind.signed, IntKind.bits] at this
  simp at this; omega
theorem callConfigReads : ∀ l, args [.ints .u8, .i .u8, .i .u8, .i .u8, .i .u8, .i .u16, .i .u8, .i .u8] l → oks l → CallOk PR i_anneallaw24_ConfigReads l [] fun r _ => r = .b true :=
  rowT (fa := fa_anneallaw24_ConfigReads) (F := G_anneallaw24_ConfigReads) rfl rfl ok_anneallaw24_ConfigReads (enters p_anneallaw24_ConfigReads (by kernel_rfl) (by kernel_rfl)) rfl fun x hx => reads (byt_ok hx.1.2) hx.2.1 hx.2.2.1 hx.2.2.2.1 hx.2.2.2.2.1 hx.2.2.2.2.2.1 hx.2.2.2.2.2.2.1 hx.2.2.2.2.2.2.2.1
end Go.Proofs.Ytcpicekmnkjceaa.VI

namespace Go.Proofs.Ytcpicekmnkjceaa.VI
set_option linter.unusedVariables false
set_option linter.unusedSimpArgs false
open Go.ChangeShapes Go.WideShapes Go.RowKit Go.WideElems Ytcpicekmnkjceaa
set_option maxRecDepth 100000
theorem laid : laidOutB Try.prog = true := by kernel_rfl
theorem own : ownKnob Try.prog.godebug = none := by kernel_rfl
theorem lifted (os : Os) (started : os.Started) (H : Type) (enc : TypeId × Value → H) :
    ReturnsInHanded {} Try.checked os 18 .any (Rows.configReadsSpec.pre6 enc Try.prog Try.f18 Rows.configReadsRow.domain false) (Rows.configReadsSpec.post enc Try.prog Try.f18 false true false false) :=
  lift_args (C := Try.checked) own started (by kernel_rfl) Try.func18
    (ChangeSpec.witness6 (enc := enc) (C := Try.checked) false ⟨#[], #[.slice none 0 0, .int .u8 0, .int .u8 0, .int .u8 0, .int .u8 0, .int .u16 0, .int .u8 0, .int .u8 0], []⟩ 8 (by kernel_rfl) (by kernel_rfl) (by kernel_rfl) (by kernel_rfl))
    laid Try.underlying4 rfl (by kernel_rfl) rfl (fun ds hd => match ds, hd with
    | [_, _, _, _, _, _, _, _], _ => rfl) (d := 6) (by kernel_rfl) (Fs := [.ints .u8, .i .u8, .i .u8, .i .u8, .i .u8, .i .u16, .i .u8, .i .u8]) (by kernel_rfl) callConfigReads
theorem over : Rows.configReadsRow.holds Try.pinned (OpenSpec.ofChange Rows.configReadsSpec) :=
  OpenClaim.holds_of_wide 18 Try.f18 rfl rfl rfl rfl rfl rfl rfl ⟨rfl, rfl, rfl, rfl, rfl⟩ rfl rfl rfl rfl rfl (by kernel_rfl) Try.func18 (by kernel_rfl)
    (of_decide_eq_true (by kernel_rfl)) (by unfold Func.isWrapper; first | (rw [if_pos (by decide +kernel)]; kernel_rfl) | (rw [if_neg (by decide +kernel)]; exact ⟨rfl, rfl⟩))
    (fun os started H enc _ => lifted os started H enc)
end Go.Proofs.Ytcpicekmnkjceaa.VI
