import Derived.Test.YtcpicekmnkjceaaTa6899eaa
namespace Go.Proofs.Ytcpicekmnkjceaa.VI
set_option linter.unusedVariables false
set_option linter.unusedSimpArgs false
set_option maxRecDepth 100000
set_option linter.unusedSimpArgs false
set_option linter.unusedVariables false
noncomputable def O_anneallaw24_known : Orc := (orm c_annealseat_Config (orm c_config_Put (orm c_config_Read (orm c_config_Same (orm c_config_Check c_config_Params)))))
theorem okO_anneallaw24_known : OrcOk PR O_anneallaw24_known := (orm_ok ok_annealseat_Config (orm_ok ok_config_Put (orm_ok ok_config_Read (orm_ok ok_config_Same (orm_ok ok_config_Check ok_config_Params)))))
abbrev fa_anneallaw24_known : Fm := .unit
abbrev ha_anneallaw24_known : List BF := []
abbrev fr_anneallaw24_known : Fm := .b
abbrev hr_anneallaw24_known : List BF := []
noncomputable def L_anneallaw24_known : Lps := L0
def inn_anneallaw24_known : T fr_anneallaw24_known → TH hr_anneallaw24_known → Bool := (fun z w => z)
def out_anneallaw24_known : Bool → T fr_anneallaw24_known × TH hr_anneallaw24_known := fun r => (r, ())
noncomputable def F_anneallaw24_known  : Option (Bool) :=
  ((F_config_Put ([(3:Int), (2:Int), (2:Int)], ((0:Int), ((2:Int), ((0:Int), ((0:Int), ((0:Int), ((981668463:Int), ((0:Int), ((1065336439:Int), ((841731191:Int), ((0:Int), ((1065353216:Int), ((1:Int), ((6:Int), ((1:Int), ((1:Int), ((5:Int), ((0:Int), (false, ((3:Int), ((2:Int), ((3:Int), ((3:Int), ((2:Int), ((2:Int), ((1:Int), ())))))))))))))))))))))))))))).bind fun r0 =>
  let x1 : List Int := (List.take (List.length r0.1) r0.1)
  ((F_config_Read x1)).bind fun r2 =>
  bif (decide (((1:Nat) + (List.length r0.1)) ≤ (1073741824:Nat))) then
    ((F_config_Read (List.take ((1:Nat) + (List.length r0.1)) ((1:Int) :: (List.append._f [] () x1))))).bind fun r3 =>
    bif (r0.2.1 == (0:Int)) then
      bif (r2.2.1 == (0:Int)) then
        ((F_config_Same ((List.take (List.length r2.1.1) r2.1.1), r2.1.2) ([(3:Int), (2:Int), (2:Int)], ((0:Int), ((2:Int), ((0:Int), ((0:Int), ((0:Int), ((981668463:Int), ((0:Int), ((1065336439:Int), ((841731191:Int), ((0:Int), ((1065353216:Int), ((1:Int), ((6:Int), ((1:Int), ((1:Int), ((5:Int), ((0:Int), (false, ((3:Int), ((2:Int), ((3:Int), ((3:Int), ((2:Int), ((2:Int), ((1:Int), ())))))))))))))))))))))))))))).bind fun r4 =>
        bif r4 then
          bif (r3.2.1 == (20:Int)) then
            ((F_config_Params ([(3:Int), (2:Int), (2:Int)], ((0:Int), ((2:Int), ((0:Int), ((0:Int), ((0:Int), ((981668463:Int), ((0:Int), ((1065336439:Int), ((841731191:Int), ((0:Int), ((1065353216:Int), ((1:Int), ((6:Int), ((1:Int), ((1:Int), ((5:Int), ((0:Int), (false, ((3:Int), ((2:Int), ((3:Int), ((3:Int), ((2:Int), ((2:Int), ((1:Int), ())))))))))))))))))))))))))))).bind fun r5 =>
            (some (decide (r5 > (0:Int))))
          else
            (some false)
        else
          (some false)
      else
        (some false)
    else
      (some false)
  else
    none
noncomputable def G_anneallaw24_known : T fa_anneallaw24_known → TH ha_anneallaw24_known → Option (Bool) := fun x y => F_anneallaw24_known 
noncomputable def c_anneallaw24_known : Orc := ent i_anneallaw24_known [] 0 (sp fa_anneallaw24_known ha_anneallaw24_known fr_anneallaw24_known hr_anneallaw24_known G_anneallaw24_known out_anneallaw24_known)
theorem ok_anneallaw24_known : OrcOk PR c_anneallaw24_known := fnT okO_anneallaw24_known mixed p_anneallaw24_known (by kernel_rfl) (by kernel_rfl) (L := L_anneallaw24_known) (kp := false) (by kernel_rfl) (inn := inn_anneallaw24_known) (out := out_anneallaw24_known) (fun _ _ => rfl) (loopsL (l := []) (by kernel_rfl) trivial) (fun x y => by kernel_rfl)
end Go.Proofs.Ytcpicekmnkjceaa.VI

namespace Go.Proofs.Ytcpicekmnkjceaa.VI
set_option linter.unusedVariables false
set_option linter.unusedSimpArgs false
set_option linter.unusedSimpArgs false
set_option linter.unusedVariables false
set_option maxRecDepth 100000
set_option maxHeartbeats 4000000
theorem gdP {l : List Int} {P : Int → Prop} (h : ∀ e ∈ l, P e) (h0 : P 0) (k : Nat) : P (l.getD k 0) := by
  rw [List.getD_eq_getElem?_getD]
  cases hl : l[k]? with
  | none => exact h0
  | some e => exact h e (List.mem_of_getElem? hl)
theorem u8R {a : Int} (h : 0 ≤ a ∧ a ≤ 255) : a % 6 = 0 ∨ a % 6 = 1 ∨ a % 6 = 2 ∨ a % 6 = 3 ∨ a % 6 = 4 ∨ a % 6 = 5 := by omega
theorem small (w : List Int) (h : (w.length = 2 ∨ w.length = 3 ∨ w.length = 4)) (h2 : ∀ e ∈ w, 1 ≤ e ∧ e ≤ 4) : wok w ∧ pr w (w.length - 1) ≤ 65536 ∧ ∀ B : Int, 1 ≤ B ∧ B ≤ 4 → ∀ j, j < w.length → B * w.getD j 0 ≤ 262144 := by
  have hj : ∀ j, j < w.length → 1 ≤ w.getD j 0 ∧ w.getD j 0 ≤ 4 := fun j hj => by
    rw [List.getD_eq_getElem?_getD, List.getElem?_eq_getElem hj]
    exact h2 _ (List.getElem_mem hj)
  refine ⟨⟨by omega, by omega, fun j k => by have := hj j k; omega⟩, ?_, fun B hB j k => ?_⟩
  · have hb : ∀ i, i < w.length → 0 ≤ pr w i ∧ pr w i ≤ i * 20 := by
      intro i
      induction i with
      | zero => intro _; simp [pr]
      | succ i ih =>
        intro hi
        have := ih (by omega)
        have k1 := hj i (by omega)
        have k2 := hj (i + 1) hi
        have m1 := Int.mul_le_mul (a := w.getD i 0 + 1) (b := w.getD (i + 1) 0) (c := 5) (d := 4) (by omega) k2.2 (by omega) (by omega)
        have m2 : 0 ≤ (w.getD i 0 + 1) * w.getD (i + 1) 0 := Int.mul_nonneg (by omega) (by omega)
        simp only [pr]; push_cast; omega
    have := hb (w.length - 1) (by omega)
    omega
  · have k2 := hj j k
    have m1 := Int.mul_le_mul (a := B) (b := w.getD j 0) (c := 4) (d := 4) (by omega) k2.2 (by omega) (by omega)
    omega
theorem wlist_small (k : Int) : ((wlist k).length = 2 ∨ (wlist k).length = 3 ∨ (wlist k).length = 4) ∧ ∀ e ∈ wlist k, 1 ≤ e ∧ e ≤ 4 := by
  unfold wlist
  split; · exact ⟨by decide, by decide⟩
  split; · exact ⟨by decide, by decide⟩
  split; · exact ⟨by decide, by decide⟩
  split; · exact ⟨by decide, by decide⟩
  split; · exact ⟨by decide, by decide⟩
  exact ⟨by decide, by decide⟩
theorem cfg_W {a b c d s : Int} (hs : 0 ≤ s ∧ s < 18446744073709551616) : cW (cfg a b c d s) := by
  refine ⟨⟨?_, ?_, ?_, ?_, ?_, ?_⟩, hs, ?_⟩
  · exact gdP (P := u32R) (by decide) (by decide) _
  · exact gdP (P := u32R) (by decide) (by decide) _
  · exact gdP (P := u32R) (by decide) (by decide) _
  · exact gdP (P := u32R) (by decide) (by decide) _
  · exact gdP (P := u32R) (by decide) (by decide) _
  · exact gdP (P := u32R) (by decide) (by decide) _
  · exact gdP (P := fun e => 0 ≤ e) (by decide) (by decide) _
theorem cfg_right {a b c d s : Int} (ha : 0 ≤ a ∧ a ≤ 255) (hb : 0 ≤ b ∧ b ≤ 255) (hc : 0 ≤ c ∧ c ≤ 255) (hd : 0 ≤ d ∧ d ≤ 255) : right (cfg a b c d s) := by
  obtain ⟨h1, h2⟩ := wlist_small (a % 6)
  obtain ⟨k1, k2, k3⟩ := small _ h1 h2
  have hm : 0 ≤ c % (a % 25 + 1) ∧ c % (a % 25 + 1) < a % 25 + 1 := ⟨Int.emod_nonneg _ (by omega), Int.emod_lt_of_pos _ (by omega)⟩
  refine ⟨k1, k2, ?_, ?_, ?_, k3 _ ?_⟩
  · simp only [kindsP, cfg, CfgT.f, CfgT.act, CfgT.loss, CfgT.opt, CfgT.sched]; omega
  · refine ⟨gdP (P := fun e => e < fInf) (by decide) (by decide) _, gdP (P := fun e => e < 1065353216) (by decide) (by decide) _, gdP (P := fun e => e < 1065353216) (by decide) (by decide) _, ⟨?_, gdP (P := fun e => e < fInf) (by decide) (by decide) _⟩, gdP (P := fun e => e < fInf) (by decide) (by decide) _, gdP (P := fun e => e < fInf) (by decide) (by decide) _⟩
    have : c / 24 % 2 = 0 ∨ c / 24 % 2 = 1 := by omega
    simp only [cfg, CfgT.eps]
    rcases this with h | h <;> rw [h] <;> decide
  · have hdr : (cfg a b c d s).drop < 2147483648 := gdP (P := fun e => e < 2147483648) (by decide) (by decide) _
    refine ⟨?_, ?_, ?_, ?_, ?_, ?_, ?_, ?_, ?_, ?_, ?_, hdr⟩
    all_goals simp only [cfg, CfgT.total, CfgT.warm, CfgT.batch, CfgT.accum, CfgT.ma, CfgT.mi, CfgT.log, CfgT.bk, CfgT.gr, CfgT.itv, CfgT.save]
    all_goals omega
  · simp only [cfg, CfgT.batch]; omega
theorem not_isE {b : List Int} {c : CfgT} (h : b.getD 0 0 ≠ 65) : ¬ isE b c := by
  intro k
  have := (isE_len k).2.1
  cases b with
  | nil => simp at this
  | cons x l => simp at this h; exact h this.1
theorem enc_read {c : CfgT} (hr : right c) (hc : cW c) : F_config_Read (enc_ c) = some (c, 0, ()) := by
  rw [cread (enc_byt hr) (by rw [enc_len]; have : c.1.length ≤ 65 := hr.1.2.1; simp only [CfgT.w]; omega), rd_enc hr hc]
def cfg0 : CfgT := ([3, 2, 2], 0, 2, 0, 0, 0, 981668463, 0, 1065336439, 841731191, 0, 1065353216, 1, 6, 1, 1, 5, 0, false, 3, 2, 3, 3, 2, 2, 1, ())
theorem cfg0_eq : cfg0 = cfg 1 2 3 4 5 := by kernel_rfl
theorem known_eq : F_anneallaw24_known = some true := by
  have hr : right cfg0 := cfg0_eq ▸ cfg_right (by omega) (by omega) (by omega) (by omega)
  have hc : cW cfg0 := cfg0_eq ▸ cfg_W (by omega)
  have hput : F_config_Put ([3, 2, 2], 0, 2, 0, 0, 0, 981668463, 0, 1065336439, 841731191, 0, 1065353216, 1, 6, 1, 1, 5, 0, false, 3, 2, 3, 3, 2, 2, 1, ()) = some (enc_ cfg0, 0, ()) := by
    show F_config_Put cfg0 = _
    rw [cput_eq hc.1 hc.2, if_pos hr]
  have hlen : (enc_ cfg0).length = 82 := by rw [enc_len]; rfl
  have h1 : F_config_Read (List.take (1 + 82) (1 :: List.append._f [] () (enc_ cfg0))) = some (zCfg, 20, ()) := by
    have e : List.take (1 + 82) (1 :: List.append._f [] () (enc_ cfg0)) = 1 :: enc_ cfg0 := by
      show List.take (1 + 82) (1 :: enc_ cfg0) = _
      exact List.take_of_length_le (by simp [hlen])
    rw [e, cread ?_ (by simp [hlen])]
    · unfold rd; rw [if_neg (not_isE (by simp))]
    · intro i
      cases i with
      | zero => simp
      | succ i => simpa using enc_byt hr i
  have hs : F_config_Same cfg0 ([3, 2, 2], 0, 2, 0, 0, 0, 981668463, 0, 1065336439, 841731191, 0, 1065353216, 1, 6, 1, 1, 5, 0, false, 3, 2, 3, 3, 2, 2, 1, ()) = some true := by
    rw [same_eq _ _ (by decide)]; exact congrArg some (decide_eq_true rfl)
  have hp : F_config_Params ([3, 2, 2], 0, 2, 0, 0, 0, 981668463, 0, 1065336439, 841731191, 0, 1065353216, 1, 6, 1, 1, 5, 0, false, 3, 2, 3, 3, 2, 2, 1, ()) = some 14 := by
    show F_config_Params cfg0 = _
    rw [cparams_eq hc.1, if_pos hr]; rfl
  unfold F_anneallaw24_known
  rw [hput]
  simp only [Option.bind_some, List.take_length, enc_read hr hc, hlen, h1, eta2]
  rw [hs, hp]
  rfl
end Go.Proofs.Ytcpicekmnkjceaa.VI
