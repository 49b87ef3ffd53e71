import Derived.Test.YtkknnloamidaiaaTa3643819
namespace Go.Proofs.Ytkknnloamidaiaa.VI
set_option linter.unusedVariables false
set_option linter.unusedSimpArgs false
set_option linter.unusedSimpArgs false
set_option linter.unusedVariables false
set_option maxRecDepth 100000
set_option maxHeartbeats 4000000
def turnS (f a : Int) : Int := if sg f a then a % (2 * TT f) - TT f else a % (2 * TT f) + TT f
theorem turn_wf' (f : Int) {a : Int} (h : w32 a) : wf f (turnS f a) := by
  have hb := mod_bd f a
  have hs := sg_iff f a h.1
  have hT := TT_cs f
  unfold turnS
  cases hq : sg f a
  · have : ¬ TT f ≤ a % (2 * TT f) := fun k => by rw [hs.2 k] at hq; cases hq
    simp; exact ⟨by omega, by omega⟩
  · have := hs.1 hq; simp; exact ⟨by omega, by omega⟩
theorem turn_eq2 (f : Int) {a : Int} (h : w32 a) : F_format_Turn f a = some (turnS f a) := turn_eq f h
def subS (f mode a b : Int) : Int × ExcT × Unit :=
  if nan f a || nan f b then (NN f, (loud f a || loud f b, false, false, false, false, ()), ()) else addS f mode a (turnS f b)
theorem sub_eq (f mode : Int) {a b : Int} (ha : w32 a) (hb : w32 b) : F_sum_Sub f mode a b = some (subS f mode a b) := by
  unfold F_sum_Sub subS
  rw [snans_eq f [a, b] (by simp) (by simpa using ⟨ha, hb⟩), turn_eq2 f hb]
  simp only [Option.bind_some, List.any_cons, List.any_nil, Bool.or_false]
  rw [add_eq f mode ha (wf_w (turn_wf' f hb))]
  cases nan f a <;> cases nan f b <;> rfl
theorem sub_wf (f mode a b : Int) : wf f (subS f mode a b).1 := by
  unfold subS; split
  · exact NN_wf f
  · exact add_wf _ _ _ _
def fintS (f mode v : Int) : Int × ExcT × Unit := pk f mode (decide (v < 0)) 0 (if v < 0 then -v else v) false
theorem fint_eq (f mode : Int) {v : Int} (h : -9223372036854775808 ≤ v ∧ v ≤ 9223372036854775807) : F_whole_FromInt f mode v = some (fintS f mode v) := by
  unfold F_whole_FromInt F_whole_amount fintS
  have e : (bif decide (v < 0) then some (IntKind.u64.wrap (0 - IntKind.u64.wrap v)) else some (IntKind.u64.wrap v)) = some (if v < 0 then -v else v) := by
    rw [bif_dec]
    by_cases k : v < 0
    · rw [if_pos k, if_pos k, wu64_eq, wu64_eq]; congr 1; omega
    · rw [if_neg k, if_neg k, wu64 (by omega)]
  rw [e]
  simp only [Option.bind_some]
  rw [pack_eq f mode _ _ (show w64 (if v < 0 then -v else v) from ⟨by split <;> omega, by split <;> omega⟩)]
  rfl
def scaleS (f mode a n : Int) : Int × ExcT × Unit :=
  if nan f a then (NN f, (loud f a, false, false, false, false, ()), ())
  else if inff f a || zr f a then (a % (2 * TT f), EXC0, ())
  else pk f mode (sg f a) (xp f a + min (max n (-5000)) 5000) (sig f a) false
theorem scale_eq (f mode : Int) {a : Int} (n : Int) (ha : w32 a) : F_whole_Scale f mode a n = some (scaleS f mode a n) := by
  have xa := xp_bd f a
  unfold F_whole_Scale F_whole_apart scaleS
  rw [snans_eq f [a] (by simp) (by simpa using ha), mask_eq, isinf_eq f ha, iszero_eq f ha, of_eq f ha]
  simp only [Option.bind_some, List.any_cons, List.any_nil, Bool.or_false, mn_eq, mx_eq, and_TT f ha.1 ha.2]
  rw [wi64 (by omega), pack_eq f mode _ _ (sig_w64 f a), show min (max (xp f a + min (max n (-5000)) 5000) (-10000)) 10000 = xp f a + min (max n (-5000)) 5000 by omega]
  rcases cls f a with ⟨a1, a3, a4⟩ | ⟨a1, a2, a3, a4⟩ | ⟨a1, a2, a3, a4⟩ | ⟨a1, a2, a3, a4⟩ <;> simp only [a1, a3, a4] <;> rfl
def unitsW (mode : Int) (n : Bool) (e N : Int) : Int × Bool :=
  if e + ln N > 40 then (1099511627776, false)
  else (fin1 mode n (qS N (-e)) (halfS N (-e)) (restS N (-e) false), halfS N (-e) || restS N (-e) false)
theorem toq_bd {e N : Int} (hN : 0 ≤ N) (h : ¬ e + ln N > 40) : 0 ≤ qS N (-e) ∧ qS N (-e) ≤ 1099511627776 := by
  unfold qS
  by_cases h0 : N = 0
  · subst h0; split <;> simp
  have hp : 0 < N := by omega
  rw [ln_pos hp] at h
  have hlt := lg_lt hp
  split
  · have c := p2_pos (- -e).toNat
    refine ⟨Int.mul_nonneg hN (by omega), ?_⟩
    have : N * 2 ^ (- -e).toNat < 2 ^ (lg N + 1) * 2 ^ (- -e).toNat := Int.mul_lt_mul_of_pos_right hlt c
    rw [← p2_add] at this
    have := p2_le (show lg N + 1 + (- -e).toNat ≤ 40 by omega)
    rw [show (2 : Int) ^ 40 = 1099511627776 from rfl] at this
    omega
  · have c := p2_pos (-e).toNat
    refine ⟨Int.ediv_nonneg hN (by omega), ?_⟩
    have : N / 2 ^ (-e).toNat < 2 ^ 40 := by
      rw [Int.ediv_lt_iff_lt_mul c, ← p2_add]
      have := p2_le (show lg N + 1 ≤ 40 + (-e).toNat by omega)
      omega
    rw [show (2 : Int) ^ 40 = 1099511627776 from rfl] at this
    omega
def tointS (f mode a : Int) : Int × ExcT × Unit :=
  if nan f a || inff f a then (-2147483648, (true, false, false, false, false, ()), ())
  else if (if sg f a then -(unitsW mode (sg f a) (xp f a) (sig f a)).1 else (unitsW mode (sg f a) (xp f a) (sig f a)).1) = IntKind.wrap .i32 (if sg f a then -(unitsW mode (sg f a) (xp f a) (sig f a)).1 else (unitsW mode (sg f a) (xp f a) (sig f a)).1)
    then (IntKind.wrap .i32 (if sg f a then -(unitsW mode (sg f a) (xp f a) (sig f a)).1 else (unitsW mode (sg f a) (xp f a) (sig f a)).1), (false, false, false, false, (unitsW mode (sg f a) (xp f a) (sig f a)).2, ()), ())
  else (-2147483648, (true, false, false, false, false, ()), ())
theorem wunits_eq (mode : Int) (n : Bool) {e N : Int} (hN : w64 N) (he : -1000 ≤ e ∧ e ≤ 1000) : F_whole_units (n, e, N, false, ()) mode = some ((unitsW mode n e N).1, (unitsW mode n e N).2, ()) ∧ 0 ≤ (unitsW mode n e N).1 ∧ (unitsW mode n e N).1 ≤ 1099511627777 := by
  have hl := ln_bd (k := 64) hN.1 (by have : (2 : Int) ^ 64 = 18446744073709551616 := rfl; have := hN.2; omega)
  unfold F_whole_units unitsW
  dsimp only
  rw [len_eq hN]
  simp only [Option.bind_some, bif_dec]
  rw [wi64 (n := e + ln N) (by omega), wi64 (n := 0 - e) (by omega)]
  by_cases h : e + ln N > 40
  · rw [if_pos h, if_pos h]; exact ⟨rfl, by decide, by decide⟩
  · rw [if_neg h, if_neg h]
    have qb := toq_bd hN.1 h
    rw [show (0 : Int) - e = -e by omega, units_eq hN (by omega) (by omega) false]
    simp only [Option.bind_some]
    rw [up_eq mode n ⟨qb.1, by omega⟩ (halfS N (-e)) (restS N (-e) false) (leftS (halfS N (-e)) (restS N (-e) false)) rfl]
    simp only [Option.bind_some]
    rw [wu64 (n := qS N (-e) + 1) (by omega)]
    unfold fin1
    generalize upS mode n (decide (qS N (-e) % 2 = 1)) (halfS N (-e)) (restS N (-e) false) = b
    refine ⟨?_, ?_, ?_⟩
    · cases b <;> cases halfS N (-e) <;> cases restS N (-e) false <;> rfl
    · cases b <;> simp <;> omega
    · cases b <;> simp <;> omega
theorem toint_eq (f mode : Int) {a : Int} (ha : w32 a) : F_whole_ToInt f mode a = some (tointS f mode a) := by
  have xa := xp_bd f a
  have hw := wunits_eq mode (sg f a) (sig_w64 f a) (show -1000 ≤ xp f a ∧ xp f a ≤ 1000 by omega)
  have hf := ex_fin f a
  have ft : F_format_Finite f a = some (!(nan f a || inff f a)) := by
    unfold F_format_Finite
    rw [parts_eq f ha.1 ha.2, top_eq]
    simp only [Option.bind_some]
    congr 1
    rw [Bool.eq_iff_iff]
    simp only [decide_eq_true_eq, Bool.not_eq_true', Bool.or_eq_false_iff]
    rw [hf]
    unfold nan inff
    simp only [decide_eq_false_iff_not]
    omega
  unfold F_whole_ToInt tointS
  rw [ft, of_eq f ha]
  simp only [Option.bind_some]
  rw [hw.1]
  simp only [Option.bind_some]
  obtain ⟨h1, h2⟩ := hw.2
  generalize (unitsW mode (sg f a) (xp f a) (sig f a)).1 = q at *
  generalize (unitsW mode (sg f a) (xp f a) (sig f a)).2 = b at *
  rw [wi64 (n := q) (by omega), wi64 (n := 0 - q) (by omega)]
  have hx : (bif sg f a then 0 - q else q) = (if sg f a then -q else q) := by cases sg f a <;> simp
  rw [hx]
  have hb : -1099511627777 ≤ (if sg f a then -q else q) ∧ (if sg f a then -q else q) ≤ 1099511627777 := by split <;> omega
  generalize (if sg f a then -q else q) = r at *
  have hw32 : IntKind.i64.wrap (IntKind.i32.wrap r) = IntKind.i32.wrap r := by
    apply wi64
    simp only [IntKind.wrap, IntKind.bits, IntKind.signed]; simp
    split <;> omega
  rw [hw32, bif_eq]
  cases nan f a <;> cases inff f a <;> simp only [Bool.or_true, Bool.or_false, Bool.not_true, Bool.not_false, cond_true, cond_false, if_true, if_false, Bool.false_eq_true] <;> (try rfl)
  by_cases k : r = IntKind.i32.wrap r
  · rw [if_pos k, if_pos k]
  · rw [if_neg k, if_neg k]
end Go.Proofs.Ytkknnloamidaiaa.VI

namespace Go.Proofs.Ytkknnloamidaiaa.VI
set_option linter.unusedVariables false
set_option linter.unusedSimpArgs false
set_option maxRecDepth 100000
set_option linter.unusedSimpArgs false
set_option linter.unusedVariables false
noncomputable def O_anneallaw12_FuncsEdges : Orc := (orm c_anneallaw12_known (orm c_funcs_Exp (orm c_funcs_Log (orm c_funcs_Tanh (orm c_funcs_Sigmoid (orm c_funcs_Gelu (orm c_funcs_Slope c_funcs_Cospi)))))))
theorem okO_anneallaw12_FuncsEdges : OrcOk PR O_anneallaw12_FuncsEdges := (orm_ok ok_anneallaw12_known (orm_ok ok_funcs_Exp (orm_ok ok_funcs_Log (orm_ok ok_funcs_Tanh (orm_ok ok_funcs_Sigmoid (orm_ok ok_funcs_Gelu (orm_ok ok_funcs_Slope ok_funcs_Cospi)))))))
abbrev fa_anneallaw12_FuncsEdges : Fm := (.pair (.i .u32) (.pair .b .unit))
abbrev ha_anneallaw12_FuncsEdges : List BF := []
abbrev fr_anneallaw12_FuncsEdges : Fm := .b
abbrev hr_anneallaw12_FuncsEdges : List BF := []
noncomputable def L_anneallaw12_FuncsEdges : Lps := (lpB 9 (.un 8 [0, 5, 6, 16, 17, 18]) L0)
def inn_anneallaw12_FuncsEdges : T fr_anneallaw12_FuncsEdges → TH hr_anneallaw12_FuncsEdges → Bool := (fun z w => z)
def out_anneallaw12_FuncsEdges : Bool → T fr_anneallaw12_FuncsEdges × TH hr_anneallaw12_FuncsEdges := fun r => (r, ())
noncomputable def F_anneallaw12_FuncsEdges (a0 : Int) (a1 : Bool) : Option (Bool) :=
  let x0 : Int := (bif a1 then (2147483648:Int) else (0:Int))
  let x1 : Int := (bits .or .u32 (IntKind.wrap .u32 ((2139095041:Int) + (Int.tmod a0 (8388606:Int)))) x0)
  let x2 : Int := (IntKind.wrap .u32 ((1118925337:Int) + (Int.tmod a0 (50331648:Int))))
  let x3 : Int := (bits .or .u32 (1065353216:Int) x0)
  (F_anneallaw12_known).bind fun r4 =>
  bif (!r4) then
    (some false)
  else
    ((F_funcs_Exp x1)).bind fun r5 =>
    bif (r5 != (2143289344:Int)) then
      (some false)
    else
      ((F_funcs_Log x1)).bind fun r6 =>
      bif (r6 != (2143289344:Int)) then
        (some false)
      else
        ((F_funcs_Tanh x1)).bind fun r7 =>
        bif (r7 != (2143289344:Int)) then
          (some false)
        else
          ((F_funcs_Sigmoid x1)).bind fun r8 =>
          bif (r8 != (2143289344:Int)) then
            (some false)
          else
            ((F_funcs_Gelu x1)).bind fun r9 =>
            bif (r9 != (2143289344:Int)) then
              (some false)
            else
              ((F_funcs_Slope x1)).bind fun r10 =>
              bif (r10 != (2143289344:Int)) then
                (some false)
              else
                ((F_funcs_Cospi x1)).bind fun r11 =>
                bif (r11 != (2143289344:Int)) then
                  (some false)
                else
                  ((F_funcs_Exp x2)).bind fun r12 =>
                  bif (r12 == (2139095040:Int)) then
                    ((F_funcs_Exp (IntKind.wrap .u32 ((3268407734:Int) + (Int.tmod a0 (16777216:Int)))))).bind fun r13 =>
                    bif (r13 == (0:Int)) then
                      ((F_funcs_Log x0)).bind fun r14 =>
                      bif (r14 == (4286578688:Int)) then
                        ((F_funcs_Log (bits .or .u32 (2147483648:Int) (IntKind.wrap .u32 ((Int.tmod a0 (2139095040:Int)) + (1:Int)))))).bind fun r15 =>
                        bif (r15 == (2143289344:Int)) then
                          ((F_funcs_Tanh (bits .or .u32 (2139095040:Int) x0))).bind fun r16 =>
                          bif (r16 == x3) then
                            ((F_funcs_Tanh (bits .or .u32 x2 x0))).bind fun r17 =>
                            bif (r17 == x3) then
                              ((F_funcs_Tanh x0)).bind fun r18 =>
                              bif (r18 == x0) then
                                ((F_funcs_Sigmoid (2139095040:Int))).bind fun r19 =>
                                bif (r19 == (1065353216:Int)) then
                                  ((F_funcs_Sigmoid (4286578688:Int))).bind fun r20 =>
                                  (some (r20 == (0:Int)))
                                else
                                  (some false)
                              else
                                (some false)
                            else
                              (some false)
                          else
                            (some false)
                        else
                          (some false)
                      else
                        (some false)
                    else
                      (some false)
                  else
                    (some false)
noncomputable def G_anneallaw12_FuncsEdges : T fa_anneallaw12_FuncsEdges → TH ha_anneallaw12_FuncsEdges → Option (Bool) := fun x y => F_anneallaw12_FuncsEdges x.1 x.2.1
noncomputable def c_anneallaw12_FuncsEdges : Orc := ent i_anneallaw12_FuncsEdges [] 0 (sp fa_anneallaw12_FuncsEdges ha_anneallaw12_FuncsEdges fr_anneallaw12_FuncsEdges hr_anneallaw12_FuncsEdges G_anneallaw12_FuncsEdges out_anneallaw12_FuncsEdges)
theorem ok_anneallaw12_FuncsEdges : OrcOk PR c_anneallaw12_FuncsEdges := fnT okO_anneallaw12_FuncsEdges mixed p_anneallaw12_FuncsEdges (by kernel_rfl) (by kernel_rfl) (L := L_anneallaw12_FuncsEdges) (kp := false) (by kernel_rfl) (inn := inn_anneallaw12_FuncsEdges) (out := out_anneallaw12_FuncsEdges) (fun _ _ => rfl) (loopsL (l := []) (by kernel_rfl) trivial) (fun x y => by kernel_rfl)
noncomputable def O_anneallaw12_FuncsSigns : Orc := (orm c_anneallaw12_known (orm c_funcs_Tanh (orm c_funcs_Exp (orm c_funcs_Sigmoid c_annealref1_Class))))
theorem okO_anneallaw12_FuncsSigns : OrcOk PR O_anneallaw12_FuncsSigns := (orm_ok ok_anneallaw12_known (orm_ok ok_funcs_Tanh (orm_ok ok_funcs_Exp (orm_ok ok_funcs_Sigmoid ok_annealref1_Class))))
abbrev fa_anneallaw12_FuncsSigns : Fm := (.pair (.i .u32) .unit)
abbrev ha_anneallaw12_FuncsSigns : List BF := []
abbrev fr_anneallaw12_FuncsSigns : Fm := .b
abbrev hr_anneallaw12_FuncsSigns : List BF := []
noncomputable def L_anneallaw12_FuncsSigns : Lps := L0
def inn_anneallaw12_FuncsSigns : T fr_anneallaw12_FuncsSigns → TH hr_anneallaw12_FuncsSigns → Bool := (fun z w => z)
def out_anneallaw12_FuncsSigns : Bool → T fr_anneallaw12_FuncsSigns × TH hr_anneallaw12_FuncsSigns := fun r => (r, ())
noncomputable def F_anneallaw12_FuncsSigns (a0 : Int) : Option (Bool) :=
  let x0 : Int := (bits .andNot .u32 a0 (2147483648:Int))
  let x1 : Int := (bits .or .u32 x0 (2147483648:Int))
  (F_anneallaw12_known).bind fun r2 =>
  bif (!r2) then
    (some false)
  else
    bif (decide (x0 > (2139095040:Int))) then
      (some true)
    else
      ((F_funcs_Tanh x0)).bind fun r3 =>
      ((F_funcs_Tanh x1)).bind fun r4 =>
      ((F_funcs_Exp x1)).bind fun r5 =>
      ((F_funcs_Sigmoid (bits .and .u32 a0 (4294967295:Int)))).bind fun r6 =>
      bif (r4 == (bits .or .u32 r3 (2147483648:Int))) then
        bif (decide (r3 ≤ (1065353217:Int))) then
          bif (decide (r5 ≤ (1065353217:Int))) then
            bif (decide (r6 ≤ (1065353217:Int))) then
              ((F_annealref1_Class (2:Int) r3)).bind fun r7 =>
              (some (decide (r7 ≤ (2:Int))))
            else
              bif (decide (a0 > (2139095040:Int))) then
                bif (decide (a0 < (2147483648:Int))) then
                  ((F_annealref1_Class (2:Int) r3)).bind fun r8 =>
                  (some (decide (r8 ≤ (2:Int))))
                else
                  bif (decide (a0 > (4286578688:Int))) then
                    ((F_annealref1_Class (2:Int) r3)).bind fun r9 =>
                    (some (decide (r9 ≤ (2:Int))))
                  else
                    (some false)
              else
                bif (decide (a0 > (4286578688:Int))) then
                  ((F_annealref1_Class (2:Int) r3)).bind fun r10 =>
                  (some (decide (r10 ≤ (2:Int))))
                else
                  (some false)
          else
            (some false)
        else
          (some false)
      else
        (some false)
noncomputable def G_anneallaw12_FuncsSigns : T fa_anneallaw12_FuncsSigns → TH ha_anneallaw12_FuncsSigns → Option (Bool) := fun x y => F_anneallaw12_FuncsSigns x.1
noncomputable def c_anneallaw12_FuncsSigns : Orc := ent i_anneallaw12_FuncsSigns [] 0 (sp fa_anneallaw12_FuncsSigns ha_anneallaw12_FuncsSigns fr_anneallaw12_FuncsSigns hr_anneallaw12_FuncsSigns G_anneallaw12_FuncsSigns out_anneallaw12_FuncsSigns)
theorem ok_anneallaw12_FuncsSigns : OrcOk PR c_anneallaw12_FuncsSigns := fnT okO_anneallaw12_FuncsSigns mixed p_anneallaw12_FuncsSigns (by kernel_rfl) (by kernel_rfl) (L := L_anneallaw12_FuncsSigns) (kp := false) (by kernel_rfl) (inn := inn_anneallaw12_FuncsSigns) (out := out_anneallaw12_FuncsSigns) (fun _ _ => rfl) (loopsL (l := []) (by kernel_rfl) trivial) (fun x y => by kernel_rfl)
end Go.Proofs.Ytkknnloamidaiaa.VI

namespace Go.Proofs.Ytkknnloamidaiaa.VI
set_option linter.unusedVariables false
set_option linter.unusedSimpArgs false
set_option linter.unusedSimpArgs false
set_option linter.unusedVariables false
set_option maxRecDepth 100000
set_option maxHeartbeats 8000000
def divS (f mode a b : Int) : Int × ExcT × Unit :=
  if nan f a || nan f b then (NN f, (loud f a || loud f b, false, false, false, false, ()), ())
  else if (zr f a && zr f b) || (inff f a && inff f b) then (NN f, (true, false, false, false, false, ()), ())
  else if inff f a then (sgn f (!(sg f a == sg f b)) + IN f, EXC0, ())
  else if inff f b || zr f a then (sgn f (!(sg f a == sg f b)), EXC0, ())
  else if zr f b then (sgn f (!(sg f a == sg f b)) + IN f, (false, true, false, false, false, ()), ())
  else pk f mode (!(sg f a == sg f b)) (xp f a - (61 - lg (sig f a)) - xp f b) (sig f a * 2 ^ (61 - lg (sig f a)) / sig f b) (decide (sig f a * 2 ^ (61 - lg (sig f a)) % sig f b ≠ 0))
theorem div_eq (f mode : Int) {a b : Int} (ha : w32 a) (hb : w32 b) : F_quot_Div f mode a b = some (divS f mode a b) := by
  have xa := xp_bd f a
  have xb := xp_bd f b
  have sa := sig_bd f a
  have sb := sig_bd f b
  have fb := fmt_bd f
  have c61 : (2 : Int) ^ 62 = 4611686018427387904 := rfl
  have ka := kl_le f a
  have kb := kl_le f b
  have na : nan f a = decide (kl f a ≥ 4) := by unfold nan; exact decide_eq_decide.2 (kl_nan f a).symm
  have nb : nan f b = decide (kl f b ≥ 4) := by unfold nan; exact decide_eq_decide.2 (kl_nan f b).symm
  have za : zr f a = decide (kl f a = 0) := by unfold zr; exact decide_eq_decide.2 (kl_zero f a).symm
  have zb : zr f b = decide (kl f b = 0) := by unfold zr; exact decide_eq_decide.2 (kl_zero f b).symm
  have ia : inff f a = decide (kl f a = 3) := by unfold inff; exact decide_eq_decide.2 (kl_inf f a).symm
  have ib : inff f b = decide (kl f b = 3) := by unfold inff; exact decide_eq_decide.2 (kl_inf f b).symm
  -- the road of finite ones
  have road : sig f a ≠ 0 → sig f b ≠ 0 →
      ((F_sum_Of f a).bind fun r26 =>
        (F_sum_Of f b).bind fun r28 =>
        (F_bits_Len r26.2.2.1).bind fun r31 =>
        (F_bits_Shift r26.2.2.1 (IntKind.wrap .i64 ((0:Int) - (IntKind.wrap .i64 ((62:Int) - r31))))).bind fun r33 =>
        bif (r28.2.2.1 == (0:Int)) then none else
        bif (r28.2.2.1 == (0:Int)) then none else
        (F_round_Pack f mode (!(sg f a == sg f b)) (IntKind.wrap .i64 ((IntKind.wrap .i64 (r26.2.1 - (IntKind.wrap .i64 ((62:Int) - r31)))) - r28.2.1)) (IntKind.wrap .u64 (Int.tdiv r33.1 r28.2.2.1)) ((Int.tmod r33.1 r28.2.2.1) != (0:Int))).bind fun r34 =>
        (some r34)) = some (pk f mode (!(sg f a == sg f b)) (xp f a - (61 - lg (sig f a)) - xp f b) (sig f a * 2 ^ (61 - lg (sig f a)) / sig f b) (decide (sig f a * 2 ^ (61 - lg (sig f a)) % sig f b ≠ 0))) := by
    intro h1 h2
    have hp : 0 < sig f a := by omega
    have hq : 0 < sig f b := by omega
    have hl := lg_bd (k := 62) hp (by omega)
    have hlt := lg_lt hp
    have hle := lg_le hp
    have hb2 : sig f a * 2 ^ (61 - lg (sig f a)) < 2 ^ 62 := by
      have := Int.mul_lt_mul_of_pos_right hlt (p2_pos (61 - lg (sig f a)))
      rw [← p2_add, show lg (sig f a) + 1 + (61 - lg (sig f a)) = 62 by omega] at this
      exact this
    have hb0 : 0 ≤ sig f a * 2 ^ (61 - lg (sig f a)) := Int.mul_nonneg sa.1 (by have := p2_pos (61 - lg (sig f a)); omega)
    rw [of_eq f ha, of_eq f hb]
    simp only [Option.bind_some]
    rw [len_eq (sig_w64 f a), ln_pos hp]
    simp only [Option.bind_some]
    rw [wi64 (n := 62 - ((lg (sig f a) : Int) + 1)) (by omega), wi64 (n := 0 - (62 - ((lg (sig f a) : Int) + 1))) (by omega)]
    have hs : F_bits_Shift (sig f a) (0 - (62 - ((lg (sig f a) : Int) + 1))) = some (sig f a * 2 ^ (61 - lg (sig f a)), false, ()) := by
      by_cases h0 : lg (sig f a) = 61
      · rw [h0, show 0 - (62 - (((61 : Nat) : Int) + 1)) = 0 by omega, shr_eq (sig_w64 f a) (by omega)]; simp
      · have := shl_eq (sig_w64 f a) (n := 61 - (lg (sig f a) : Int)) (by omega) (by
          rw [show (61 - (lg (sig f a) : Int)).toNat = 61 - lg (sig f a) by omega]; omega)
        rw [show 0 - (62 - ((lg (sig f a) : Int) + 1)) = -(61 - (lg (sig f a) : Int)) by omega, this]
        rw [show (61 - (lg (sig f a) : Int)).toNat = 61 - lg (sig f a) by omega]
    rw [hs]
    simp only [Option.bind_some]
    have hz : (sig f b == 0) = false := beq_false_of_ne h2
    rw [hz]
    simp only [cond_false]
    rw [tdiv_nn hb0, tmod_nn hb0]
    have hd0 : 0 ≤ sig f a * 2 ^ (61 - lg (sig f a)) / sig f b := Int.ediv_nonneg hb0 (by omega)
    have hd1 : sig f a * 2 ^ (61 - lg (sig f a)) / sig f b ≤ sig f a * 2 ^ (61 - lg (sig f a)) := Int.ediv_le_self _ hb0
    rw [wu64 (n := sig f a * 2 ^ (61 - lg (sig f a)) / sig f b) (by omega), wi64 (n := xp f a - (62 - ((lg (sig f a) : Int) + 1))) (by omega), wi64 (by omega)]
    rw [pack_eq f mode _ _ (show w64 (sig f a * 2 ^ (61 - lg (sig f a)) / sig f b) from ⟨hd0, by omega⟩)]
    simp only [Option.bind_some]
    rw [show min (max (xp f a - (62 - ((lg (sig f a) : Int) + 1)) - xp f b) (-10000)) 10000 = xp f a - (61 - lg (sig f a)) - xp f b by omega]
    have : (sig f a * 2 ^ (61 - lg (sig f a)) % sig f b != 0) = decide (sig f a * 2 ^ (61 - lg (sig f a)) % sig f b ≠ 0) := by rw [Bool.eq_iff_iff]; simp
    rw [this]
  unfold F_quot_Div F_sum_Bad divS
  rw [snans_eq f [a, b] (by simp) (by simpa using ⟨ha, hb⟩), neg_eq f ha, neg_eq f hb, class_eq f ha.1 ha.2, class_eq f hb.1 hb.2, nan_w]
  simp only [Option.bind_some, List.any_cons, List.any_nil, Bool.or_false, inf_eq, zero_eq]
  have hsa : nan f a = false → inff f a = false → zr f a = false → sig f a ≠ 0 := fun h1 h2 h3 k => by rw [(sig_zero f a h1 h2).1 k] at h3; cases h3
  have hsb : nan f b = false → inff f b = false → zr f b = false → sig f b ≠ 0 := fun h1 h2 h3 k => by rw [(sig_zero f b h1 h2).1 k] at h3; cases h3
  rw [na, nb] at *
  rw [za, zb, ia, ib] at *
  generalize pk f mode _ _ _ _ = W at *
  generalize loud f a = la at *
  generalize loud f b = lb at *
  rcases (show kl f a = 0 ∨ kl f a = 1 ∨ kl f a = 2 ∨ kl f a = 3 ∨ kl f a ≥ 4 by omega) with p | p | p | p | p <;>
  rcases (show kl f b = 0 ∨ kl f b = 1 ∨ kl f b = 2 ∨ kl f b = 3 ∨ kl f b ≥ 4 by omega) with q | q | q | q | q
  all_goals (first | (have p' : decide (kl f a ≥ 4) = true := decide_eq_true p) | (have p' : decide (kl f a ≥ 4) = false := decide_eq_false (by omega)))
  all_goals (first | (have q' : decide (kl f b ≥ 4) = true := decide_eq_true q) | (have q' : decide (kl f b ≥ 4) = false := decide_eq_false (by omega)))
  all_goals rw [p', q']
  all_goals (try (have r1 := road (hsa (by rw [p']) (by rw [p]; rfl) (by rw [p]; rfl)) (hsb (by rw [q']) (by rw [q]; rfl) (by rw [q]; rfl))))
  all_goals clear road hsa hsb na nb za zb ia ib ka kb xa xb
  all_goals (first
    | (rw [Bool.true_or]; rfl)
    | (rw [Bool.or_true]; rfl)
    | (rw [p, q]; rfl)
    | (rw [p, q]; exact r1)
    | skip)
end Go.Proofs.Ytkknnloamidaiaa.VI

namespace Go.Proofs.Ytkknnloamidaiaa.VI
set_option linter.unusedVariables false
set_option linter.unusedSimpArgs false
set_option linter.unusedSimpArgs false
set_option linter.unusedVariables false
set_option maxRecDepth 100000
set_option maxHeartbeats 8000000
theorem fabove_eq {a b : Int} (ha : w32 a) (hb : w32 b) : F_funcs_Above a b = some (lt 2 b a) := by
  unfold F_funcs_Above; rw [less_eq 2 hb ha]; rfl
theorem fisnan_eq {a : Int} (ha : w32 a) : F_funcs_IsNan a = some (nan 2 a) := by
  unfold F_funcs_IsNan; rw [isnan_eq 2 ha]; rfl
theorem bq {α : Type} (c : Bool) (a b : α) : (bif c then a else b) = if c = true then a else b := by cases c <;> rfl
def mulf (a b : Int) : Int := (mulS 2 0 a b).1
def subf (a b : Int) : Int := (subS 2 0 a b).1
def divf (a b : Int) : Int := (divS 2 0 a b).1
def intf (n : Int) : Int := (fintS 2 0 n).1
def scalef (a n : Int) : Int := (scaleS 2 0 a n).1
def wholef (a : Int) : Int := (tointS 2 0 a).1
theorem mulf_w (a b : Int) : w32 (mulf a b) := wf_w (mul_wf 2 0 a b)
theorem subf_w (a b : Int) : w32 (subf a b) := wf_w (sub_wf 2 0 a b)
theorem div_wf (f mode a b : Int) : wf f (divS f mode a b).1 := by
  unfold divS
  split
  · exact NN_wf f
  split
  · exact NN_wf f
  split
  · exact infs_wf f _
  split
  · have := sgn_wf f (!(sg f a == sg f b)) (x := 0) ⟨Int.le_refl _, by have := TT_cs f; omega⟩
    rw [Int.add_zero] at this
    exact this
  split
  · exact infs_wf f _
  · exact pk_wf _ _ _ _ _ _ (Int.ediv_nonneg (Int.mul_nonneg (sig_bd f a).1 (by have := p2_pos (61 - lg (sig f a)); omega)) (sig_bd f b).1)
theorem divf_w (a b : Int) : w32 (divf a b) := wf_w (div_wf 2 0 a b)
theorem fint_wf (f mode v : Int) : wf f (fintS f mode v).1 := pk_wf _ _ _ _ _ _ (by split <;> omega)
theorem intf_w (n : Int) : w32 (intf n) := wf_w (fint_wf 2 0 n)
theorem scale_wf (f mode a n : Int) : wf f (scaleS f mode a n).1 := by
  unfold scaleS
  split
  · exact NN_wf f
  split
  · have := mod_bd f a; exact ⟨this.1, this.2.1⟩
  · exact pk_wf _ _ _ _ _ _ (sig_bd f a).1
theorem scalef_w (a n : Int) : w32 (scalef a n) := wf_w (scale_wf 2 0 a n)
theorem turn2_w {a : Int} (h : w32 a) : w32 (turnS 2 a) := wf_w (turn_wf' 2 h)
theorem wholef_bd (a : Int) : -2147483648 ≤ wholef a ∧ wholef a ≤ 2147483647 := by
  have wr : ∀ z : Int, -2147483648 ≤ IntKind.wrap .i32 z ∧ IntKind.wrap .i32 z ≤ 2147483647 := fun z => by
    simp only [IntKind.wrap, IntKind.bits, IntKind.signed]; simp
    split <;> omega
  unfold wholef tointS
  generalize (if sg 2 a = true then -(unitsW 0 (sg 2 a) (xp 2 a) (sig 2 a)).1 else (unitsW 0 (sg 2 a) (xp 2 a) (sig 2 a)).1) = z
  by_cases h1 : (nan 2 a || inff 2 a) = true
  · rw [if_pos h1]; exact ⟨by decide, by decide⟩
  rw [if_neg h1]
  by_cases h2 : z = IntKind.wrap .i32 z
  · rw [if_pos h2]; exact wr z
  · rw [if_neg h2]; exact ⟨by decide, by decide⟩
theorem fmul_eq {a b : Int} (ha : w32 a) (hb : w32 b) : F_funcs_Mul a b = some (mulf a b) := by
  unfold F_funcs_Mul; rw [mul_eq 2 0 ha hb]; rfl
theorem fsub_eq {a b : Int} (ha : w32 a) (hb : w32 b) : F_funcs_Sub a b = some (subf a b) := by
  unfold F_funcs_Sub; rw [sub_eq 2 0 ha hb]; rfl
theorem fdiv_eq {a b : Int} (ha : w32 a) (hb : w32 b) : F_funcs_Div a b = some (divf a b) := by
  unfold F_funcs_Div; rw [div_eq 2 0 ha hb]; rfl
theorem fsint_eq {n : Int} (h : -9223372036854775808 ≤ n ∧ n ≤ 9223372036854775807) : F_funcs_Int n = some (intf n) := by
  unfold F_funcs_Int; rw [fint_eq 2 0 h]; rfl
theorem fscale_eq {a : Int} (n : Int) (ha : w32 a) : F_funcs_Scale a n = some (scalef a n) := by
  unfold F_funcs_Scale; rw [scale_eq 2 0 n ha]; rfl
theorem fwhole_eq {a : Int} (ha : w32 a) : F_whole_ToInt 2 0 a = some (tointS 2 0 a) := toint_eq 2 0 ha
theorem xminus {a : Int} (h : w32 a) : bits .xor .u32 (bits .and .u32 a 4294967295) 2147483648 = turnS 2 a := by
  have e : F_format_Turn 2 a = some (bits .xor .u32 (bits .and .u32 a 4294967295) 2147483648) := by
    unfold F_format_Turn F_format_Widths F_format_Mask
    rfl
  rw [turn_eq2 2 h] at e
  exact (Option.some.inj e).symm
theorem fminus_eq {a : Int} (h : w32 a) : F_funcs_Minus a = some (turnS 2 a) := by
  unfold F_funcs_Minus; rw [xminus h]
theorem sg2 {a : Int} (h : w32 a) : (bits .and .u32 (a / 2147483648) 1 == (1 : Int)) = sg 2 a := by
  have e := and_mask32 (a / 2147483648) 1 (by have := h.1; omega) (by have := h.2; omega) (by decide)
  rw [show (2 : Int) ^ 1 - 1 = 1 from rfl] at e
  rw [e, Bool.eq_iff_iff, sg_iff 2 a h.1]
  have : TT 2 = 2147483648 := rfl
  have h1 := h.1
  have h2 := h.2
  rw [this]
  simp
  omega
def polyS (x p : Int) (l : List Int) : Int := l.foldl (fun p c => fma p x c) p
theorem polyS_w {x p : Int} (hp : w32 p) : ∀ l : List Int, w32 (polyS x p l)
  | [] => hp
  | c :: l => polyS_w (fma_w p x c) l
theorem take_foldl {x p : Int} (l : List Int) {i : Nat} (h : i < l.length) : polyS x p (l.take (i + 1)) = fma (polyS x p (l.take i)) x (l.getD i 0) := by
  have e : l.take (i + 1) = l.take i ++ [l.getD i 0] := by
    rw [List.take_add_one, List.getElem?_eq_getElem h, List.getD_eq_getElem?_getD, List.getElem?_eq_getElem h]; rfl
  rw [e]; unfold polyS; rw [List.foldl_append]; rfl
theorem poly_eq {x p : Int} (hx : w32 x) (hp : w32 p) (l : List Int) (hl : ∀ c ∈ l, w32 c) (hn : l.length ≤ 100) : F_funcs_poly x p l = some (polyS x p l) := by
  have key := lim_seq (st := st_funcs_poly_0) (fun i => ((x, (polyS x p (l.take i), (l, ((l.length : Int), ((i : Int), ()))))), ())) (b := ((polyS x p (l.take l.length), ()), ())) l.length
    (fun i hi R kn ko => by
      unfold st_funcs_poly_0
      dsimp only
      simp only [List.take_length, bif_dec, Int.toNat_natCast]
      rw [if_pos (by omega), if_pos (by omega), ffma_eq (polyS_w hp _) hx (by
        rw [List.getD_eq_getElem?_getD, List.getElem?_eq_getElem hi]; exact hl _ (List.getElem_mem hi)), take_foldl l hi]
      simp only [Option.bind_some]
      rw [wi64 (n := (i : Int) + 1) (by omega), show ((i + 1 : Nat) : Int) = (i : Int) + 1 by omega])
    (fun R kn ko => by
      unfold st_funcs_poly_0
      dsimp only
      simp only [List.take_length, bif_dec]
      rw [if_neg (by omega)])
  unfold F_funcs_poly
  rw [List.take_length]
  rw [show polyS x p (l.take 0) = p from rfl] at key
  rw [List.take_length] at key
  exact (congrArg (fun o => Option.bind o fun r0 => some r0.1.1) key)
def expR (x : Int) : Int := fma (turnS 2 (intf (wholef (mulf x 1069066811)))) 901758606 (fma (turnS 2 (intf (wholef (mulf x 1069066811)))) 1060205056 x)
def expM (x : Int) : Int := scalef (polyS (expR x) 985008993 [1007192201, 1026206379, 1042983595, 1056964608, 1065353216, 1065353216]) (wholef (mulf x 1069066811))
def expS (x : Int) : Int := if nan 2 x then 2143289344 else if lt 2 1118925336 x then 2139095040 else if lt 2 x 3268407733 then 0 else expM x
theorem wlit {a : Int} (h : (decide (0 ≤ a) && decide (a ≤ 4294967295)) = true) : w32 a := by
  simp at h; exact ⟨h.1, by omega⟩
theorem exp_eq {x : Int} (h : w32 x) : F_funcs_Exp x = some (expS x) := by
  have bw := wholef_bd (mulf x 1069066811)
  unfold F_funcs_Exp expS
  rw [fisnan_eq h, fabove_eq h (wlit rfl), fabove_eq (wlit rfl) h, fmul_eq h (wlit rfl)]
  simp only [Option.bind_some]
  rw [fwhole_eq (mulf_w _ _)]
  simp only [Option.bind_some]
  rw [show (tointS 2 0 (mulf x 1069066811)).1 = wholef (mulf x 1069066811) from rfl, wi64 (by omega), fsint_eq (by omega)]
  simp only [Option.bind_some]
  rw [xminus (intf_w _), ffma_eq (turn2_w (intf_w _)) (wlit rfl) h]
  simp only [Option.bind_some]
  rw [ffma_eq (turn2_w (intf_w _)) (wlit rfl) (fma_w _ _ _)]
  simp only [Option.bind_some]
  rw [poly_eq (fma_w _ _ _) (wlit rfl) _ (by decide) (by decide)]
  simp only [Option.bind_some]
  rw [fscale_eq _ (polyS_w (wlit rfl) _)]
  cases nan 2 x <;> cases lt 2 1118925336 x <;> cases lt 2 x 3268407733 <;> rfl
theorem exp_w {x : Int} : w32 (expS x) := by
  unfold expS
  split
  · exact wlit rfl
  split
  · exact wlit rfl
  split
  · exact wlit rfl
  · exact scalef_w _ _
def logT (m : Int) : Int := divf (subf m 1065353216) (addf 1073741824 (subf m 1065353216))
def logY (s : Int) : Int := fma s (mulf (polyS (mulf s s) 1046711865 [1049774373, 1053609165, 1059760811]) (mulf s s)) (addf s s)
def logK (e m : Int) : Int := fma (intf e) 1060205056 (fma (intf e) 901758606 (logY (logT m)))
def logE (x : Int) : Int := xp 2 x + ln (sig 2 x) - 1
def logM (x : Int) : Int := if lt 2 1068827891 (scalef x (-logE x)) then logK (logE x + 1) (scalef (scalef x (-logE x)) (-1)) else logK (logE x) (scalef x (-logE x))
def logS (x : Int) : Int := if nan 2 x then 2143289344 else if zr 2 x then 4286578688 else if sg 2 x then 2143289344 else if inff 2 x then x else logM x
theorem log_eq {x : Int} (h : w32 x) : F_funcs_Log x = some (logS x) := by
  have xa := xp_bd 2 x
  have hl := ln_bd (k := 64) (sig_bd 2 x).1 (by have := sig_bd 2 x; have : (2 : Int) ^ 64 = 18446744073709551616 := rfl; have := (sig_w64 2 x).2; omega)
  have hr : ∀ e m : Int, w32 m → -10000 ≤ e ∧ e ≤ 10000 →
      ((F_funcs_Sub m (1065353216:Int)).bind fun r22 =>
            (F_funcs_Add (1073741824:Int) r22).bind fun r23 =>
            (F_funcs_Div r22 r23).bind fun r24 =>
            (F_funcs_Mul r24 r24).bind fun r25 =>
            (F_funcs_poly r25 (1046711865:Int) [(1049774373:Int), (1053609165:Int), (1059760811:Int)]).bind fun r26 =>
            (F_funcs_Mul r26 r25).bind fun r27 =>
            (F_funcs_Add r24 r24).bind fun r28 =>
            (F_funcs_Fma r24 r27 r28).bind fun r29 =>
            (F_funcs_Int e).bind fun r30 =>
            (F_funcs_Fma r30 (901758606:Int) r29).bind fun r31 =>
            (F_funcs_Fma r30 (1060205056:Int) r31).bind fun r32 =>
            (some r32)) = some (logK e m) := by
    intro e m hm he
    rw [fsub_eq hm (wlit rfl)]
    simp only [Option.bind_some]
    rw [fadd_eq (wlit rfl) (subf_w _ _)]
    simp only [Option.bind_some]
    rw [fdiv_eq (subf_w _ _) (addf_w _ _)]
    simp only [Option.bind_some]
    rw [fmul_eq (divf_w _ _) (divf_w _ _)]
    simp only [Option.bind_some]
    rw [poly_eq (mulf_w _ _) (wlit rfl) _ (by decide) (by decide)]
    simp only [Option.bind_some]
    rw [fmul_eq (polyS_w (wlit rfl) _) (mulf_w _ _), fadd_eq (divf_w _ _) (divf_w _ _)]
    simp only [Option.bind_some]
    rw [ffma_eq (divf_w _ _) (mulf_w _ _) (addf_w _ _), fsint_eq (by omega)]
    simp only [Option.bind_some]
    rw [ffma_eq (intf_w _) (wlit rfl) (fma_w _ _ _)]
    simp only [Option.bind_some]
    rw [ffma_eq (intf_w _) (wlit rfl) (fma_w _ _ _)]
    rfl
  unfold F_funcs_Log logS
  rw [fisnan_eq h, iszero_eq 2 h, isinf_eq 2 h, unpack_eq 2 h, sg2 h]
  simp only [Option.bind_some]
  rw [len_eq (sig_w64 2 x)]
  simp only [Option.bind_some]
  rw [wi64 (n := xp 2 x + ln (sig 2 x)) (by omega), wi64 (n := xp 2 x + ln (sig 2 x) - 1) (by omega), wi64 (n := 0 - (xp 2 x + ln (sig 2 x) - 1)) (by omega), wi64 (n := xp 2 x + ln (sig 2 x) - 1 + 1) (by omega), fscale_eq _ h]
  simp only [Option.bind_some]
  rw [fabove_eq (scalef_w _ _) (wlit rfl), fscale_eq _ (scalef_w _ _)]
  simp only [Option.bind_some]
  have h1 := hr (xp 2 x + ln (sig 2 x) - 1 + 1) (scalef (scalef x (0 - (xp 2 x + ln (sig 2 x) - 1))) (-1)) (scalef_w _ _) (by omega)
  have h2 := hr (xp 2 x + ln (sig 2 x) - 1) (scalef x (0 - (xp 2 x + ln (sig 2 x) - 1))) (scalef_w _ _) (by omega)
  rw [h1, h2]
  unfold logM logE
  rw [show (0 : Int) - (xp 2 x + ln (sig 2 x) - 1) = -(xp 2 x + ln (sig 2 x) - 1) by omega]
  cases nan 2 x <;> cases zr 2 x <;> cases sg 2 x <;> cases inff 2 x <;> cases lt 2 1068827891 (scalef x (-(xp 2 x + ln (sig 2 x) - 1))) <;> rfl
theorem log_w {x : Int} (h : w32 x) : w32 (logS x) := by
  unfold logS
  split
  · exact wlit rfl
  split
  · exact wlit rfl
  split
  · exact wlit rfl
  split
  · exact h
  · unfold logM; split <;> exact fma_w _ _ _
def tanT (a : Int) : Int := subf 1065353216 (divf 1073741824 (addf (expS (addf a a)) 1065353216))
def tanA (a : Int) : Int := if lt 2 1091579060 a then 1065353216 else tanT a
def tanS (x : Int) : Int := if nan 2 x then 2143289344 else if zr 2 x then x else if sg 2 x then turnS 2 (tanA (turnS 2 x)) else tanA x
theorem tanT_w (a : Int) : w32 (tanT a) := subf_w _ _
theorem tanA_w (a : Int) : w32 (tanA a) := by
  unfold tanA; split
  · exact wlit rfl
  · exact tanT_w a
theorem tanh_w {x : Int} (h : w32 x) : w32 (tanS x) := by
  unfold tanS
  split
  · exact wlit rfl
  split
  · exact h
  split
  · exact turn2_w (tanA_w _)
  · exact tanA_w _
theorem tanh_eq {x : Int} (h : w32 x) : F_funcs_Tanh x = some (tanS x) := by
  have hr : ∀ (a : Int) (b : Bool), w32 a → ((F_funcs_Add a a).bind fun r5 =>
          (F_funcs_Exp r5).bind fun r6 =>
          (F_funcs_Add r6 (1065353216:Int)).bind fun r7 =>
          (F_funcs_Div (1073741824:Int) r7).bind fun r8 =>
          (F_funcs_Sub (1065353216:Int) r8).bind fun r9 =>
          bif b then
            (some (bits .xor .u32 (bits .and .u32 r9 (4294967295:Int)) (2147483648:Int)))
          else
            (some r9)) = some (if b then turnS 2 (tanT a) else tanT a) := by
    intro a b ha
    rw [fadd_eq ha ha]
    simp only [Option.bind_some]
    rw [exp_eq (addf_w _ _)]
    simp only [Option.bind_some]
    rw [fadd_eq exp_w (wlit rfl)]
    simp only [Option.bind_some]
    rw [fdiv_eq (wlit rfl) (addf_w _ _)]
    simp only [Option.bind_some]
    rw [fsub_eq (wlit rfl) (divf_w _ _)]
    simp only [Option.bind_some]
    rw [xminus (subf_w _ _)]
    cases b <;> rfl
  unfold F_funcs_Tanh tanS
  rw [fisnan_eq h, iszero_eq 2 h, sg2 h, xminus h]
  dsimp only
  rw [hr _ _ (turn2_w h), hr _ _ h, fabove_eq (turn2_w h) (wlit rfl), fabove_eq h (wlit rfl)]
  simp only [Option.bind_some]
  unfold tanA
  have e1 : turnS 2 (1065353216 : Int) = 3212836864 := by decide
  cases nan 2 x <;> cases zr 2 x <;> cases sg 2 x <;> cases lt 2 1091579060 (turnS 2 x) <;> cases lt 2 1091579060 x <;> simp [e1]
def sigS (x : Int) : Int := divf 1065353216 (addf 1065353216 (expS (turnS 2 x)))
theorem sigm_eq {x : Int} (h : w32 x) : F_funcs_Sigmoid x = some (sigS x) := by
  unfold F_funcs_Sigmoid sigS
  rw [xminus h, exp_eq (turn2_w h)]
  simp only [Option.bind_some]
  rw [fadd_eq (wlit rfl) exp_w]
  simp only [Option.bind_some]
  rw [fdiv_eq (wlit rfl) (addf_w _ _)]
  rfl
def innS (x : Int) : Int := mulf 1061962282 (fma 1027024659 (mulf (mulf x x) x) x)
theorem inner_eq {x : Int} (h : w32 x) : F_funcs_inner x = some (innS x) := by
  unfold F_funcs_inner innS
  rw [fmul_eq h h]
  simp only [Option.bind_some]
  rw [fmul_eq (mulf_w _ _) h]
  simp only [Option.bind_some]
  rw [ffma_eq (wlit rfl) (mulf_w _ _) h]
  simp only [Option.bind_some]
  rw [fmul_eq (wlit rfl) (fma_w _ _ _)]
  rfl
theorem inn_w (x : Int) : w32 (innS x) := mulf_w _ _
def gelS (x : Int) : Int := mulf (mulf 1056964608 x) (addf 1065353216 (tanS (innS x)))
theorem gel_w (x : Int) : w32 (gelS x) := mulf_w _ _
theorem gelu_eq {x : Int} (h : w32 x) : F_funcs_Gelu x = some (gelS x) := by
  unfold F_funcs_Gelu gelS
  rw [fmul_eq (wlit rfl) h, inner_eq h]
  simp only [Option.bind_some]
  rw [tanh_eq (inn_w x)]
  simp only [Option.bind_some]
  rw [fadd_eq (wlit rfl) (tanh_w (inn_w x))]
  simp only [Option.bind_some]
  rw [fmul_eq (mulf_w _ _) (addf_w _ _)]
  rfl
def sloT (x t : Int) : Int := fma (mulf (mulf 1056964608 x) (subf 1065353216 (mulf t t))) (mulf 1061962282 (fma 1040801103 (mulf x x) 1065353216)) (mulf 1056964608 (addf 1065353216 t))
def sloS (x : Int) : Int := sloT x (tanS (innS x))
theorem slo_w (x : Int) : w32 (sloS x) := fma_w _ _ _
theorem slope_eq {x : Int} (h : w32 x) : F_funcs_Slope x = some (sloS x) := by
  have ht := tanh_w (inn_w x)
  unfold F_funcs_Slope sloS sloT
  rw [inner_eq h, fmul_eq h h, fmul_eq (wlit rfl) h]
  simp only [Option.bind_some]
  rw [tanh_eq (inn_w x), ffma_eq (wlit rfl) (mulf_w _ _) (wlit rfl)]
  simp only [Option.bind_some]
  rw [fmul_eq (wlit rfl) (fma_w _ _ _), fmul_eq ht ht, fadd_eq (wlit rfl) ht]
  simp only [Option.bind_some]
  rw [fsub_eq (wlit rfl) (mulf_w _ _), fmul_eq (wlit rfl) (addf_w _ _)]
  simp only [Option.bind_some]
  rw [fmul_eq (mulf_w _ _) (subf_w _ _)]
  simp only [Option.bind_some]
  rw [ffma_eq (mulf_w _ _) (mulf_w _ _) (mulf_w _ _)]
  rfl
def cosY (x : Int) : Int := mulf 1078530011 (subf x 1056964608)
def cosM (y : Int) : Int := turnS 2 (mulf y (polyS (mulf y y) 3109031169 [1007192201, 3190467243, 1065353216]))
def cosS (x : Int) : Int := if nan 2 x then 2143289344 else cosM (cosY x)
theorem cospi_eq {x : Int} (h : w32 x) : F_funcs_Cospi x = some (cosS x) := by
  unfold F_funcs_Cospi cosS cosM cosY
  rw [fisnan_eq h, fsub_eq h (wlit rfl)]
  simp only [Option.bind_some]
  rw [fmul_eq (wlit rfl) (subf_w _ _)]
  simp only [Option.bind_some]
  rw [fmul_eq (mulf_w _ _) (mulf_w _ _)]
  simp only [Option.bind_some]
  rw [poly_eq (mulf_w _ _) (wlit rfl) _ (by decide) (by decide)]
  simp only [Option.bind_some]
  rw [fmul_eq (mulf_w _ _) (polyS_w (wlit rfl) _)]
  simp only [Option.bind_some]
  rw [xminus (mulf_w _ _)]
  cases nan 2 x <;> rfl
theorem known12_eq : F_anneallaw12_known = some true := by
  unfold F_anneallaw12_known
  rw [exp_eq (wlit rfl), log_eq (wlit rfl), sigm_eq (wlit rfl), gelu_eq (wlit rfl)]
  simp only [Option.bind_some]
  rw [show (expS 0 == 1065353216) = true by decide +kernel, show (logS 1065353216 == 0) = true by decide +kernel, show (sigS 0 == 1056964608) = true by decide +kernel, show (gelS 0 == 0) = true by decide +kernel]
  rfl
end Go.Proofs.Ytkknnloamidaiaa.VI

namespace Go.Proofs.Ytkknnloamidaiaa.VI
set_option linter.unusedVariables false
set_option linter.unusedSimpArgs false
set_option linter.unusedSimpArgs false
set_option linter.unusedVariables false
set_option maxRecDepth 100000
set_option maxHeartbeats 8000000
set_option exponentiation.threshold 2000
theorem turn2 {x : Int} (h : w32 x) : turnS 2 x = if 2147483648 ≤ x then x - 2147483648 else x + 2147483648 := by
  have h1 := h.1
  have h2 := h.2
  unfold turnS
  have e : sg 2 x = decide (2147483648 ≤ x) := by
    rw [Bool.eq_iff_iff, decide_eq_true_iff]; unfold sg; rw [decide_eq_true_iff, show TT 2 = 2147483648 from rfl]; omega
  rw [e]
  show (if decide (2147483648 ≤ x) = true then x % 4294967296 - 2147483648 else x % 4294967296 + 2147483648) = _
  rw [Int.emod_eq_of_lt h1 h2]
  by_cases k : 2147483648 ≤ x
  · rw [if_pos (decide_eq_true k), if_pos k]
  · rw [if_neg (by simp [k]), if_neg k]
theorem cs2 : BB 2 = 8388608 ∧ MM 2 = 23 ∧ RR 2 = 256 ∧ TT 2 = 2147483648 ∧ IN 2 = 2139095040 ∧ le 2 = -126 := by decide
def mv (m : Int) : Int := sig 2 m * 2 ^ (xp 2 m + 149).toNat
def vz (s : Int) : Int := sv (sg 2 s) (mv s)
theorem fin2_min (neg : Bool) (u q : Int) (h r s : Bool) (hu : -149 ≤ u) (hq : 0 ≤ q ∧ q ≤ 16777216) (hn : 8388608 ≤ q ∨ u = -149) :
    (fin2 2 0 neg u q h r s).1 = sgn 2 neg + min ((u + 149) * 8388608 + q) 2139095040 := by
  obtain ⟨c1, c2, c3, c4, c5, c6⟩ := cs2
  unfold fin2 overS
  rw [c1, c2, c3, c5, c6]
  have o : (if (0 : Int) = 1 ∨ ((0 : Int) = 2 ∧ neg = true) ∨ ((0 : Int) = 3 ∧ neg = false) then (2139095040 : Int) - 1 else 2139095040) = 2139095040 := by simp
  rw [o]
  by_cases t : q = 16777216
  · subst t
    simp only [show (16777216 : Int) / (2 * 8388608) = 1 by decide, show (16777216 : Int) / 2 / 8388608 = 1 by decide, show (16777216 : Int) / 2 % 8388608 = 0 by decide]
    simp
    by_cases k : u + 1 + 23 + 126 + 1 ≥ 255
    · rw [if_pos (by omega)]; show sgn 2 neg + 2139095040 = _; omega
    · rw [if_neg (by omega)]; show sgn 2 neg + _ = _; omega
  · have e1 : q / (2 * 8388608) = 0 := by omega
    rw [e1]
    simp only [if_true]
    rcases hn with hn | hn
    · have e2 : q / 8388608 = 1 := by omega
      rw [e2]
      simp
      by_cases k : u + 23 + 126 + 1 ≥ 255
      · rw [if_pos (by omega)]; show sgn 2 neg + 2139095040 = _; omega
      · rw [if_neg (by omega)]; show sgn 2 neg + _ + _ = _; omega
    · subst hn
      by_cases k : q / 8388608 = 0
      · rw [k]; simp; omega
      · have e2 : q / 8388608 = 1 := by omega
        rw [e2]; simp; omega
theorem pk_near (neg : Bool) {e N : Int} (hN : 0 < N) (he : -298 ≤ e) :
    ∃ u q : Int, -149 ≤ u ∧ 0 ≤ q ∧ q ≤ 16777216 ∧ (8388608 ≤ q ∨ u = -149) ∧ (pk 2 0 neg e N false).1 = sgn 2 neg + min ((u + 149) * 8388608 + q) 2139095040
      ∧ (∀ S X : Int, -149 ≤ X → X ≤ u → 0 ≤ S → N * 2 ^ (e + 298).toNat ≤ S * 2 ^ (X + 298).toNat → (X = u → q ≤ S) ∧ (X < u → 8388608 * 2 ^ (u - X).toNat ≤ S))
      ∧ (∀ S : Int, S * 2 ^ (u + 298).toNat ≤ N * 2 ^ (e + 298).toNat → S ≤ q)
      ∧ N * 2 ^ (e + 298).toNat < 16777216 * 2 ^ (u + 298).toNat := by
  obtain ⟨c1, c2, c3, c4, c5, c6⟩ := cs2
  have hqb := q_bd 2 e N (by omega)
  rw [c1] at hqb
  have hu : unitS 2 e N = max (-126) (e + ln N - 1) - 23 := by unfold unitS; rw [if_neg (by omega), c2, c6]
  have hnorm : 8388608 ≤ qS N (unitS 2 e N - e) ∨ unitS 2 e N = -149 := by
    by_cases k : unitS 2 e N = -149
    · exact Or.inr k
    left
    have hl := lg_le hN
    have hb : unitS 2 e N - e = lg N - 23 := by rw [hu, ln_pos hN] at k ⊢; omega
    unfold qS
    rw [hb]
    have c : (2 : Int) ^ 23 = 8388608 := rfl
    split
    · have := Int.mul_le_mul_of_nonneg_right hl (show (0 : Int) ≤ 2 ^ (-((lg N : Int) - 23)).toNat by have := p2_pos (-((lg N : Int) - 23)).toNat; omega)
      rw [← p2_add, show lg N + (-((lg N : Int) - 23)).toNat = 23 by omega] at this; omega
    · have p := p2_pos ((lg N : Int) - 23).toNat
      rw [Int.le_ediv_iff_mul_le p, ← c, ← p2_add, show 23 + ((lg N : Int) - 23).toNat = lg N by omega]; exact hl
  have hu0 : -149 ≤ unitS 2 e N := by rw [hu]; omega
  -- W between q and q + 1
  have hW : qS N (unitS 2 e N - e) * 2 ^ (unitS 2 e N + 298).toNat ≤ N * 2 ^ (e + 298).toNat ∧ N * 2 ^ (e + 298).toNat < (qS N (unitS 2 e N - e) + 1) * 2 ^ (unitS 2 e N + 298).toNat
      ∧ (halfS N (unitS 2 e N - e) = true → qS N (unitS 2 e N - e) * 2 ^ (unitS 2 e N + 298).toNat < N * 2 ^ (e + 298).toNat) := by
    unfold qS halfS
    have pe := p2_pos (e + 298).toNat
    have pu := p2_pos (unitS 2 e N + 298).toNat
    generalize unitS 2 e N = u at *
    by_cases k : u - e ≤ 0
    · rw [if_pos k, if_pos k]
      have : N * 2 ^ (-(u - e)).toNat * 2 ^ (u + 298).toNat = N * 2 ^ (e + 298).toNat := by
        rw [Int.mul_assoc, ← p2_add]; congr 2; omega
      refine ⟨by omega, ?_, fun h => by cases h⟩
      rw [Int.add_mul, this]; omega
    · rw [if_neg k, if_neg k]
      have e1 : (2 : Int) ^ (u + 298).toNat = 2 ^ (u - e).toNat * 2 ^ (e + 298).toNat := by rw [← p2_add]; congr 1; omega
      have p := p2_pos (u - e).toNat
      have d := Int.mul_ediv_add_emod N (2 ^ (u - e).toNat)
      have m0 := Int.emod_nonneg N (show (2 : Int) ^ (u - e).toNat ≠ 0 by omega)
      have m1 := Int.emod_lt_of_pos N p
      rw [e1, ← Int.mul_assoc, ← Int.mul_assoc]
      have t1 : N / 2 ^ (u - e).toNat * 2 ^ (u - e).toNat ≤ N := by rw [Int.mul_comm]; omega
      have t2 : N < (N / 2 ^ (u - e).toNat + 1) * 2 ^ (u - e).toNat := by rw [Int.add_mul, Int.mul_comm]; omega
      refine ⟨Int.mul_le_mul_of_nonneg_right t1 (by omega), Int.mul_lt_mul_of_pos_right t2 pe, fun h => ?_⟩
      apply Int.mul_lt_mul_of_pos_right _ pe
      -- the half bit is set: N is not just q units
      have e2 : (2 : Int) ^ (u - e).toNat = 2 ^ (u - e - 1).toNat * 2 ^ 1 := by rw [← p2_add]; congr 1; omega
      have mm := mod_p2 N (u - e - 1).toNat 1
      rw [show (u - e - 1).toNat + 1 = (u - e).toNat by omega] at mm
      have h1 : N / 2 ^ (u - e - 1).toNat % 2 ^ 1 = 1 := of_decide_eq_true h
      rw [h1] at mm
      have p1 := p2_pos (u - e - 1).toNat
      have m2 := Int.emod_nonneg N (show (2 : Int) ^ (u - e - 1).toNat ≠ 0 by omega)
      rw [Int.mul_comm]; omega
  obtain ⟨w1, w2, w3⟩ := hW
  have pku : (pk 2 0 neg e N false).1 = (fin2 2 0 neg (unitS 2 e N) (fin1 0 neg (qS N (unitS 2 e N - e)) (halfS N (unitS 2 e N - e)) (restS N (unitS 2 e N - e) false)) (halfS N (unitS 2 e N - e)) (restS N (unitS 2 e N - e) false) (smallS 2 e N)).1 := by
    unfold pk; rw [if_neg (by omega)]
  have hf : fin1 0 neg (qS N (unitS 2 e N - e)) (halfS N (unitS 2 e N - e)) (restS N (unitS 2 e N - e) false) = qS N (unitS 2 e N - e) ∨ (fin1 0 neg (qS N (unitS 2 e N - e)) (halfS N (unitS 2 e N - e)) (restS N (unitS 2 e N - e) false) = qS N (unitS 2 e N - e) + 1 ∧ halfS N (unitS 2 e N - e) = true) := by
    unfold fin1 upS
    cases halfS N (unitS 2 e N - e)
    · left; simp
    · by_cases k : (restS N (unitS 2 e N - e) false || decide (qS N (unitS 2 e N - e) % 2 = 1)) = true
      · right; refine ⟨?_, rfl⟩; simp only [Bool.true_and]; rw [k]; simp
      · left; simp only [Bool.true_and]; rw [Bool.not_eq_true] at k; rw [k]; simp
  rw [pku]
  generalize fin1 0 neg (qS N (unitS 2 e N - e)) (halfS N (unitS 2 e N - e)) (restS N (unitS 2 e N - e) false) = q1 at *
  generalize halfS N (unitS 2 e N - e) = hh at *
  generalize restS N (unitS 2 e N - e) false = rr at *
  generalize smallS 2 e N = ss at *
  generalize qS N (unitS 2 e N - e) = q at *
  generalize unitS 2 e N = u at *
  have pu := p2_pos (u + 298).toNat
  refine ⟨u, q1, hu0, by omega, by omega, by omega, fin2_min neg u q1 hh rr ss hu0 (by omega) (by omega), ?_, ?_, ?_⟩
  · intro S X x1 x2 s0 hS
    refine ⟨fun k => ?_, fun k => ?_⟩
    · subst k
      rcases hf with hf | ⟨hf, hh1⟩
      · rw [hf]
        have := Int.le_trans w1 hS
        exact Int.le_of_mul_le_mul_right this pu
      · have := Int.lt_of_lt_of_le (w3 hh1) hS
        have := Int.lt_of_mul_lt_mul_right this (by omega)
        omega
    · have e1 : (2 : Int) ^ (u + 298).toNat = 2 ^ (u - X).toNat * 2 ^ (X + 298).toNat := by rw [← p2_add]; congr 1; omega
      have px := p2_pos (X + 298).toNat
      have hq : 8388608 ≤ q := by omega
      have t1 : 8388608 * 2 ^ (u + 298).toNat ≤ q * 2 ^ (u + 298).toNat := Int.mul_le_mul_of_nonneg_right hq (by omega)
      rw [e1, ← Int.mul_assoc] at t1
      rw [e1] at w1
      exact Int.le_of_mul_le_mul_right (Int.le_trans t1 (Int.le_trans w1 hS)) px
  · intro S hS
    have := Int.lt_of_le_of_lt hS w2
    have := Int.lt_of_mul_lt_mul_right this (by omega)
    omega
  · have : (q + 1) * 2 ^ (u + 298).toNat ≤ 16777216 * 2 ^ (u + 298).toNat := Int.mul_le_mul_of_nonneg_right (by omega) (by omega)
    omega
end Go.Proofs.Ytkknnloamidaiaa.VI

namespace Go.Proofs.Ytkknnloamidaiaa.VI
set_option linter.unusedVariables false
set_option linter.unusedSimpArgs false
set_option linter.unusedSimpArgs false
set_option linter.unusedVariables false
set_option maxRecDepth 100000
set_option maxHeartbeats 8000000
set_option exponentiation.threshold 2000
theorem code_parts {c : Int} (h0 : 0 ≤ c) (h1 : c < 2139095040) : -149 ≤ xp 2 c ∧ xp 2 c ≤ 127 ∧ c = (xp 2 c + 149) * 8388608 + sig 2 c ∧ 0 ≤ sig 2 c ∧ sig 2 c < 16777216 ∧ (8388608 ≤ sig 2 c ∨ xp 2 c = -149) := by
  obtain ⟨c1, c2, c3, c4, c5, c6⟩ := cs2
  unfold xp sig ex ff
  rw [c1, c2, c3, c6]
  have e1 : c / 8388608 % 256 = c / 8388608 := by omega
  rw [e1]
  by_cases k : c / 8388608 = 0
  · rw [if_pos k, if_pos k]; omega
  · rw [if_neg k, if_neg k, if_neg (by omega), if_neg (by omega)]; omega
theorem mv_nn (c : Int) : 0 ≤ mv c := Int.mul_nonneg (sig_bd 2 c).1 (by have := p2_pos (xp 2 c + 149).toNat; omega)
theorem mv_up (c : Int) : mv c * 2 ^ 149 = sig 2 c * 2 ^ (xp 2 c + 298).toNat := by
  have := xp_bd 2 c
  unfold mv
  rw [Int.mul_assoc, ← p2_add]; congr 2; omega
theorem mv_le {m c : Int} (h0 : 0 ≤ m) (h : m ≤ c) (h1 : c < 2139095040) : mv m ≤ mv c := by
  obtain ⟨a1, a2, a3, a4, a5, a6⟩ := code_parts h0 (by omega : m < 2139095040)
  obtain ⟨b1, b2, b3, b4, b5, b6⟩ := code_parts (by omega : 0 ≤ c) h1
  unfold mv
  generalize sig 2 m = S at *
  generalize sig 2 c = R at *
  generalize xp 2 m = X at *
  generalize xp 2 c = Y at *
  have px := p2_pos (X + 149).toNat
  by_cases k : X = Y
  · subst k
    exact Int.mul_le_mul_of_nonneg_right (by omega) (by omega)
  · have hXY : X < Y := by omega
    have e1 : (2 : Int) ^ (Y + 149).toNat = 2 ^ (Y - X - 1).toNat * 2 ^ 1 * 2 ^ (X + 149).toNat := by rw [← p2_add, ← p2_add]; congr 1; omega
    have p1 := p2_pos (Y - X - 1).toNat
    rw [e1, ← Int.mul_assoc]
    apply Int.mul_le_mul_of_nonneg_right _ (by omega)
    have : R * 1 ≤ R * 2 ^ (Y - X - 1).toNat := Int.mul_le_mul_of_nonneg_left (by omega) b4
    rw [← Int.mul_assoc]
    omega
theorem rnd_mag (neg : Bool) {e N : Int} (hN : 0 < N) (he : -298 ≤ e) :
    ∃ M : Int, 0 ≤ M ∧ M ≤ 2139095040 ∧ (pk 2 0 neg e N false).1 = sgn 2 neg + M
      ∧ (∀ c, 0 ≤ c → c < 2139095040 → N * 2 ^ (e + 298).toNat ≤ mv c * 2 ^ 149 → M ≤ c)
      ∧ (∀ c, 0 ≤ c → c < 2139095040 → mv c * 2 ^ 149 ≤ N * 2 ^ (e + 298).toNat → c ≤ M) := by
  obtain ⟨u, q, u0, q0, q1, qn, hp, hu, hl, hw⟩ := pk_near neg hN he
  refine ⟨min ((u + 149) * 8388608 + q) 2139095040, by omega, by omega, hp, ?_, ?_⟩
  · intro c h0 h1 hc
    obtain ⟨b1, b2, b3, b4, b5, b6⟩ := code_parts h0 h1
    rw [mv_up] at hc
    generalize sig 2 c = R at *
    generalize xp 2 c = Y at *
    by_cases k : Y ≤ u
    · obtain ⟨z1, z2⟩ := hu R Y b1 k b4 hc
      by_cases k2 : Y = u
      · have := z1 k2; omega
      · have := z2 (by omega)
        have e1 : (2 : Int) ^ (u - Y).toNat = 2 * 2 ^ (u - Y - 1).toNat := by rw [← p2_succ]; congr 1; omega
        have p1 := p2_pos (u - Y - 1).toNat
        omega
    · omega
  · intro c h0 h1 hc
    obtain ⟨b1, b2, b3, b4, b5, b6⟩ := code_parts h0 h1
    rw [mv_up] at hc
    generalize sig 2 c = R at *
    generalize xp 2 c = Y at *
    by_cases k : Y = u
    · subst k
      have := hl R hc
      omega
    · by_cases k2 : Y < u
      · omega
      · exfalso
        have h3 := Int.lt_of_le_of_lt hc hw
        have pu := p2_pos (u + 298).toNat
        have e1 : (2 : Int) ^ (Y + 298).toNat = 2 ^ (Y - u - 1).toNat * 2 ^ 1 * 2 ^ (u + 298).toNat := by rw [← p2_add, ← p2_add]; congr 1; omega
        rw [e1, ← Int.mul_assoc] at h3
        have h4 := Int.lt_of_mul_lt_mul_right h3 (by omega)
        have p1 := p2_pos (Y - u - 1).toNat
        have : R * 1 ≤ R * 2 ^ (Y - u - 1).toNat := Int.mul_le_mul_of_nonneg_left (by omega) b4
        rw [← Int.mul_assoc] at h4
        omega
def fnt (s : Int) : Prop := w32 s ∧ s % 2147483648 < 2139095040
theorem fin_nan {s : Int} (h : fnt s) : nan 2 s = false := by
  unfold nan; exact decide_eq_false (by show ¬ (2139095040 < s % 2147483648); have := h.2; omega)
theorem fin_inf {s : Int} (h : fnt s) : inff 2 s = false := by
  unfold inff; exact decide_eq_false (by show ¬ (s % 2147483648 = 2139095040); have := h.2; omega)
theorem sv_neg (n : Bool) (A : Int) : sv (!n) A = -sv n A := by unfold sv; cases n <;> simp
theorem mv_mod (s : Int) (h : w32 s) : mv (s % 2147483648) = mv s := by
  obtain ⟨c1, c2, c3, c4, c5, c6⟩ := cs2
  have h1 := h.1
  have h2 := h.2
  have e1 : s % 2147483648 / 8388608 % 256 = s / 8388608 % 256 := by omega
  have e2 : s % 2147483648 % 8388608 = s % 8388608 := by omega
  unfold mv xp sig ex ff
  rw [c1, c2, c3, c6, e1, e2]
theorem sgd {s : Int} (h : w32 s) : sg 2 s = decide (2147483648 ≤ s) := by
  have h1 := h.1
  have h2 := h.2
  unfold sg
  rw [show TT 2 = 2147483648 from rfl, Bool.eq_iff_iff, decide_eq_true_iff, decide_eq_true_iff]; omega
theorem vz_pos {s : Int} (h : w32 s) (k : s < 2147483648) : vz s = mv s := by
  unfold vz; rw [sgd h, decide_eq_false (by omega)]; rfl
theorem vz_neg {s : Int} (h : w32 s) (k : 2147483648 ≤ s) : vz s = -mv (s - 2147483648) := by
  have h1 := h.1
  have h2 := h.2
  unfold vz; rw [sgd h, decide_eq_true k, ← mv_mod s h, show s % 2147483648 = s - 2147483648 by omega]; rfl
theorem pk_in (neg : Bool) {e N lo hi : Int} (hN : 0 ≤ N) (he : -298 ≤ e) (fl : fnt lo) (fh : fnt hi)
    (h1 : vz lo * 2 ^ 149 ≤ sv neg (N * 2 ^ (e + 298).toNat)) (h2 : sv neg (N * 2 ^ (e + 298).toNat) ≤ vz hi * 2 ^ 149) :
    fnt (pk 2 0 neg e N false).1 ∧ vz lo ≤ vz (pk 2 0 neg e N false).1 ∧ vz (pk 2 0 neg e N false).1 ≤ vz hi := by
  have P : (0 : Int) < 2 ^ 149 := p2_pos 149
  have c4 : sgn 2 true = 2147483648 := rfl
  have c5 : sgn 2 false = 0 := rfl
  by_cases h0 : N = 0
  · subst h0
    have hz : (pk 2 0 neg e 0 false).1 = sgn 2 neg := by unfold pk; rw [if_pos ⟨rfl, rfl⟩]
    have hs : sv neg (0 * 2 ^ (e + 298).toNat) = 0 := by unfold sv; cases neg <;> simp
    rw [hs] at h1 h2
    have v0 : vz (sgn 2 neg) = 0 := by cases neg <;> decide
    rw [hz, v0]
    refine ⟨⟨by cases neg <;> exact ⟨by decide, by decide⟩, by cases neg <;> decide⟩, ?_, ?_⟩
    · exact Int.le_of_mul_le_mul_right (by rw [Int.zero_mul]; exact h1) P
    · exact Int.le_of_mul_le_mul_right (by rw [Int.zero_mul]; exact h2) P
  have hp : 0 < N := by omega
  have hW : 0 < N * 2 ^ (e + 298).toNat := Int.mul_pos hp (p2_pos _)
  obtain ⟨M, m0, m1, hM, hu, hl⟩ := rnd_mag neg hp he
  generalize N * 2 ^ (e + 298).toNat = W at *
  rw [hM]
  have wl := fl.1
  have wh := fh.1
  have l1 := wl.1
  have l2 := wl.2
  have g1 := wh.1
  have g2 := wh.2
  have fl2 := fl.2
  have fh2 := fh.2
  cases neg
  · -- above nought
    rw [c5, Int.zero_add]
    have hsv : sv false W = W := rfl
    rw [hsv] at h1 h2
    have hpos : 0 < vz hi := by
      have : 0 < vz hi * 2 ^ 149 := by omega
      exact Int.pos_of_mul_pos_left this P
    have hhi : hi < 2147483648 := by
      apply Int.lt_of_not_ge; intro k
      rw [vz_neg wh k] at hpos
      have := mv_nn (hi - 2147483648); omega
    have hv := vz_pos wh hhi
    have hMc : M ≤ hi := hu hi g1 (by omega) (by rw [← hv]; exact h2)
    have wM : w32 M := ⟨by omega, by omega⟩
    have vM := vz_pos wM (by omega)
    refine ⟨⟨wM, by omega⟩, ?_, ?_⟩
    · by_cases k : lo < 2147483648
      · have hvl := vz_pos wl k
        rw [hvl] at h1 ⊢
        rw [vM]
        exact mv_le l1 (hl lo l1 (by omega) h1) (by omega)
      · rw [vz_neg wl (by omega), vM]
        have := mv_nn (lo - 2147483648)
        have := mv_nn M
        omega
    · rw [vM, hv]; exact mv_le m0 hMc (by omega)
  · -- below nought
    rw [c4]
    have hsv : sv true W = -W := rfl
    rw [hsv] at h1 h2
    have hneg : vz lo < 0 := by
      have h3 : vz lo * 2 ^ 149 < 0 := by omega
      apply Int.lt_of_not_ge; intro k
      have := Int.mul_nonneg k (Int.le_of_lt P)
      omega
    have hlo : 2147483648 ≤ lo := by
      apply Int.le_of_not_gt; intro k
      rw [vz_pos wl k] at hneg
      have := mv_nn lo; omega
    have hv := vz_neg wl hlo
    have hMc : M ≤ lo - 2147483648 := hu (lo - 2147483648) (by omega) (by omega) (by rw [hv, Int.neg_mul] at h1; omega)
    have wM : w32 (2147483648 + M) := ⟨by omega, by omega⟩
    have vM := vz_neg wM (by omega)
    rw [show 2147483648 + M - 2147483648 = M by omega] at vM
    refine ⟨⟨wM, by omega⟩, ?_, ?_⟩
    · rw [vM, hv]
      have := mv_le m0 hMc (by omega)
      omega
    · by_cases k : hi < 2147483648
      · rw [vz_pos wh k, vM]
        have := mv_nn hi
        have := mv_nn M
        omega
      · have hvh := vz_neg wh (by omega)
        rw [hvh, Int.neg_mul] at h2
        have := mv_le (by omega) (hl (hi - 2147483648) (by omega) (by omega) (by omega)) (show M < 2139095040 by omega)
        rw [hvh, vM]; omega
theorem svl (x : Int) : sv (sg 2 x) (sig 2 x * 2 ^ (xp 2 x + 149).toNat) = vz x := rfl
theorem svl_up (x : Int) : sv (sg 2 x) (sig 2 x * 2 ^ (xp 2 x + 298).toNat) = vz x * 2 ^ 149 := by
  rw [← mv_up, sv_mul]; rfl
theorem sv_mul2 (m n : Bool) (A B : Int) : sv (!(m == n)) (A * B) = sv m A * sv n B := by
  unfold sv; cases m <;> cases n <;> simp [Int.neg_mul, Int.mul_neg]
theorem svl_mul (a b : Int) : sv (!(sg 2 a == sg 2 b)) (sig 2 a * sig 2 b * 2 ^ (xp 2 a + xp 2 b + 298).toNat) = vz a * vz b := by
  have xa := xp_bd 2 a
  have xb := xp_bd 2 b
  rw [← svl a, ← svl b, ← sv_mul2]
  congr 1
  rw [show (xp 2 a + xp 2 b + 298).toNat = (xp 2 a + 149).toNat + (xp 2 b + 149).toNat by omega, p2_add]
  rw [Int.mul_assoc, Int.mul_assoc, Int.mul_left_comm (sig 2 b)]
theorem tot_in {T lo hi : Int} (fl : fnt lo) (fh : fnt hi) (h1 : vz lo * 2 ^ 149 ≤ T) (h2 : T ≤ vz hi * 2 ^ 149) :
    fnt (totS 2 0 T).1 ∧ vz lo ≤ vz (totS 2 0 T).1 ∧ vz (totS 2 0 T).1 ≤ vz hi := by
  have P : (0 : Int) < 2 ^ 149 := p2_pos 149
  unfold totS
  by_cases h0 : T = 0
  · rw [if_pos h0]
    subst h0
    have v0 : vz (sgn 2 (decide ((0 : Int) = 3))) = 0 := by decide
    show fnt (sgn 2 (decide ((0 : Int) = 3))) ∧ vz lo ≤ vz (sgn 2 (decide ((0 : Int) = 3))) ∧ vz (sgn 2 (decide ((0 : Int) = 3))) ≤ vz hi
    rw [v0]
    refine ⟨⟨⟨by decide, by decide⟩, by decide⟩, ?_, ?_⟩
    · exact Int.le_of_mul_le_mul_right (by rw [Int.zero_mul]; exact h1) P
    · exact Int.le_of_mul_le_mul_right (by rw [Int.zero_mul]; exact h2) P
  · rw [if_neg h0]
    have e : sv (decide (T < 0)) ((if T < 0 then -T else T) * 2 ^ ((-298 : Int) + 298).toNat) = T := by
      unfold sv
      by_cases k : T < 0
      · rw [if_pos (decide_eq_true k), if_pos k]; simp
      · rw [if_neg (by simp [k]), if_neg k]; simp
    exact pk_in _ (by split <;> omega) (by decide) fl fh (by rw [e]; exact h1) (by rw [e]; exact h2)
theorem sum_in {n m : Bool} {e N d M lo hi : Int} (fl : fnt lo) (fh : fnt hi)
    (h1 : vz lo * 2 ^ 149 ≤ sv n (N * 2 ^ (e + 298).toNat) + sv m (M * 2 ^ (d + 298).toNat)) (h2 : sv n (N * 2 ^ (e + 298).toNat) + sv m (M * 2 ^ (d + 298).toNat) ≤ vz hi * 2 ^ 149) :
    fnt (sumS 2 0 n e N m d M).1 ∧ vz lo ≤ vz (sumS 2 0 n e N m d M).1 ∧ vz (sumS 2 0 n e N m d M).1 ≤ vz hi := by
  have P : (0 : Int) < 2 ^ 149 := p2_pos 149
  unfold sumS
  generalize sv n (N * 2 ^ (e + 298).toNat) + sv m (M * 2 ^ (d + 298).toNat) = T at *
  by_cases h0 : T = 0 ∧ n = m
  · rw [if_pos h0]
    rw [h0.1] at h1 h2
    have v0 : vz (sgn 2 n) = 0 := by cases n <;> decide
    show fnt (sgn 2 n) ∧ vz lo ≤ vz (sgn 2 n) ∧ vz (sgn 2 n) ≤ vz hi
    rw [v0]
    refine ⟨⟨by cases n <;> exact ⟨by decide, by decide⟩, by cases n <;> decide⟩, ?_, ?_⟩
    · exact Int.le_of_mul_le_mul_right (by rw [Int.zero_mul]; exact h1) P
    · exact Int.le_of_mul_le_mul_right (by rw [Int.zero_mul]; exact h2) P
  · rw [if_neg h0]; exact tot_in fl fh h1 h2
theorem mulf_in {a b lo hi : Int} (fa : fnt a) (fb : fnt b) (fl : fnt lo) (fh : fnt hi) (h1 : vz lo * 2 ^ 149 ≤ vz a * vz b) (h2 : vz a * vz b ≤ vz hi * 2 ^ 149) :
    fnt (mulf a b) ∧ vz lo ≤ vz (mulf a b) ∧ vz (mulf a b) ≤ vz hi := by
  have xa := xp_bd 2 a
  have xb := xp_bd 2 b
  unfold mulf mulS
  rw [fin_nan fa, fin_nan fb, fin_inf fa, fin_inf fb]
  simp only [Bool.or_false, Bool.and_false, Bool.false_and, Bool.false_eq_true, if_false]
  exact pk_in _ (Int.mul_nonneg (sig_bd 2 a).1 (sig_bd 2 b).1) (by omega) fl fh (by rw [svl_mul]; exact h1) (by rw [svl_mul]; exact h2)
theorem fma_in {a b c lo hi : Int} (fa : fnt a) (fb : fnt b) (fc : fnt c) (fl : fnt lo) (fh : fnt hi) (h1 : vz lo * 2 ^ 149 ≤ vz a * vz b + vz c * 2 ^ 149) (h2 : vz a * vz b + vz c * 2 ^ 149 ≤ vz hi * 2 ^ 149) :
    fnt (fma a b c) ∧ vz lo ≤ vz (fma a b c) ∧ vz (fma a b c) ≤ vz hi := by
  unfold fma fmaS
  rw [fin_nan fa, fin_nan fb, fin_nan fc, fin_inf fa, fin_inf fb, fin_inf fc]
  simp only [Bool.or_false, Bool.and_false, Bool.false_and, Bool.false_eq_true, if_false]
  exact sum_in fl fh (by rw [svl_mul, svl_up]; exact h1) (by rw [svl_mul, svl_up]; exact h2)
theorem addf_in {a b lo hi : Int} (fa : fnt a) (fb : fnt b) (fl : fnt lo) (fh : fnt hi) (h1 : vz lo ≤ vz a + vz b) (h2 : vz a + vz b ≤ vz hi) :
    fnt (addf a b) ∧ vz lo ≤ vz (addf a b) ∧ vz (addf a b) ≤ vz hi := by
  have P : (0 : Int) ≤ 2 ^ 149 := by have := p2_pos 149; omega
  unfold addf addS
  rw [fin_nan fa, fin_nan fb, fin_inf fa, fin_inf fb]
  simp only [Bool.or_false, Bool.and_false, Bool.false_and, Bool.false_eq_true, if_false]
  exact sum_in fl fh (by rw [svl_up, svl_up, ← Int.add_mul]; exact Int.mul_le_mul_of_nonneg_right h1 P) (by rw [svl_up, svl_up, ← Int.add_mul]; exact Int.mul_le_mul_of_nonneg_right h2 P)
theorem turn_fin {b : Int} (fb : fnt b) : fnt (turnS 2 b) ∧ vz (turnS 2 b) = -vz b := by
  have w := fb.1
  have h1 := w.1
  have h2 := w.2
  have h3 := fb.2
  have e := turn2 w
  by_cases k : 2147483648 ≤ b
  · rw [if_pos k] at e
    rw [e]
    have w' : w32 (b - 2147483648) := ⟨by omega, by omega⟩
    refine ⟨⟨w', by omega⟩, ?_⟩
    rw [vz_neg w k, vz_pos w' (by omega)]; omega
  · rw [if_neg k] at e
    rw [e]
    have w' : w32 (b + 2147483648) := ⟨by omega, by omega⟩
    refine ⟨⟨w', by omega⟩, ?_⟩
    rw [vz_neg w' (by omega), vz_pos w (by omega), show b + 2147483648 - 2147483648 = b by omega]
theorem subf_in {a b lo hi : Int} (fa : fnt a) (fb : fnt b) (fl : fnt lo) (fh : fnt hi) (h1 : vz lo ≤ vz a - vz b) (h2 : vz a - vz b ≤ vz hi) :
    fnt (subf a b) ∧ vz lo ≤ vz (subf a b) ∧ vz (subf a b) ≤ vz hi := by
  have ⟨ft, vt⟩ := turn_fin fb
  have e : subf a b = addf a (turnS 2 b) := by
    unfold subf subS addf
    rw [fin_nan fa, fin_nan fb]; rfl
  rw [e]
  exact addf_in fa ft fl fh (by rw [vt]; omega) (by rw [vt]; omega)
end Go.Proofs.Ytkknnloamidaiaa.VI

namespace Go.Proofs.Ytkknnloamidaiaa.VI
set_option linter.unusedVariables false
set_option linter.unusedSimpArgs false
set_option linter.unusedSimpArgs false
set_option linter.unusedVariables false
set_option maxRecDepth 100000
set_option maxHeartbeats 8000000
set_option exponentiation.threshold 2000
def pw (k : Nat) : Int := ((k : Int) + 127) * 8388608
theorem pw_fin {k : Nat} (h : k ≤ 127) : fnt (pw k) ∧ vz (pw k) = 2 ^ k * 2 ^ 149 ∧ fnt (pw k + 2147483648) ∧ vz (pw k + 2147483648) = -(2 ^ k * 2 ^ 149) := by
  obtain ⟨c1, c2, c3, c4, c5, c6⟩ := cs2
  have hb : 0 ≤ pw k ∧ pw k < 2139095040 := by unfold pw; omega
  have hm : mv (pw k) = 2 ^ k * 2 ^ 149 := by
    unfold mv xp sig ex ff
    rw [c1, c2, c3, c6]
    have e1 : pw k / 8388608 % 256 = (k : Int) + 127 := by unfold pw; omega
    have e2 : pw k % 8388608 = 0 := by unfold pw; omega
    rw [e1, e2, if_neg (by omega), if_neg (by omega), if_neg (by omega), if_neg (by omega)]
    rw [show (0 : Int) + 8388608 = 2 ^ 23 from rfl, ← p2_add, ← p2_add]
    congr 1; omega
  have w1 : w32 (pw k) := ⟨by omega, by omega⟩
  have w2 : w32 (pw k + 2147483648) := ⟨by omega, by omega⟩
  refine ⟨⟨w1, by omega⟩, by rw [vz_pos w1 (by omega), hm], ⟨w2, by omega⟩, ?_⟩
  rw [vz_neg w2 (by omega), show pw k + 2147483648 - 2147483648 = pw k by omega, hm]
def ab (k : Nat) (s : Int) : Prop := fnt s ∧ -(2 ^ k * 2 ^ 149) ≤ vz s ∧ vz s ≤ 2 ^ k * 2 ^ 149
theorem abs_mul {a b A B : Int} (h1 : -A ≤ a ∧ a ≤ A) (h2 : -B ≤ b ∧ b ≤ B) : -(A * B) ≤ a * b ∧ a * b ≤ A * B := by
  have k1 : 0 ≤ (A - a) * (B + b) := Int.mul_nonneg (by omega) (by omega)
  have k2 : 0 ≤ (A + a) * (B - b) := Int.mul_nonneg (by omega) (by omega)
  have k3 : 0 ≤ (A - a) * (B - b) := Int.mul_nonneg (by omega) (by omega)
  have k4 : 0 ≤ (A + a) * (B + b) := Int.mul_nonneg (by omega) (by omega)
  simp only [Int.sub_mul, Int.add_mul, Int.mul_add, Int.mul_sub] at k1 k2 k3 k4
  omega
theorem ab_mono {i j : Nat} (h : i ≤ j) {s : Int} (a : ab i s) : ab j s := by
  have P : (0 : Int) ≤ 2 ^ 149 := by have := p2_pos 149; omega
  have := Int.mul_le_mul_of_nonneg_right (p2_le h) P
  exact ⟨a.1, by have := a.2.1; omega, by have := a.2.2; omega⟩
theorem ab_prod {i j m : Nat} (h : i + j ≤ m) {a b : Int} (ha : ab i a) (hb : ab j b) : -(2 ^ m * 2 ^ 149 * 2 ^ 149) ≤ vz a * vz b ∧ vz a * vz b ≤ 2 ^ m * 2 ^ 149 * 2 ^ 149 := by
  have P : (0 : Int) ≤ 2 ^ 149 * 2 ^ 149 := by have := p2_pos 149; exact Int.mul_nonneg (by omega) (by omega)
  have k := abs_mul ha.2 hb.2
  have e : (2 : Int) ^ i * 2 ^ 149 * (2 ^ j * 2 ^ 149) = 2 ^ (i + j) * (2 ^ 149 * 2 ^ 149) := by
    rw [p2_add, Int.mul_assoc, Int.mul_assoc, Int.mul_left_comm ((2 : Int) ^ 149)]
  rw [e] at k
  have := Int.mul_le_mul_of_nonneg_right (p2_le h) P
  rw [Int.mul_assoc]
  omega
theorem ab_mul {i j m : Nat} (h : i + j ≤ m) (hm : m ≤ 127) {a b : Int} (ha : ab i a) (hb : ab j b) : ab m (mulf a b) := by
  obtain ⟨f1, v1, f2, v2⟩ := pw_fin hm
  have k := ab_prod h ha hb
  have := mulf_in ha.1 hb.1 f2 f1 (by rw [v2, Int.neg_mul]; exact k.1) (by rw [v1]; exact k.2)
  rw [v1, v2] at this
  exact this
theorem ab_fma {i j l m : Nat} (h : i + j + 1 ≤ m) (h2 : l + 1 ≤ m) (hm : m ≤ 127) {a b c : Int} (ha : ab i a) (hb : ab j b) (hc : ab l c) : ab m (fma a b c) := by
  have P : (0 : Int) ≤ 2 ^ 149 := by have := p2_pos 149; omega
  obtain ⟨n, rfl⟩ : ∃ n, m = n + 1 := ⟨m - 1, by omega⟩
  obtain ⟨f1, v1, f2, v2⟩ := pw_fin hm
  have k := ab_prod (show i + j ≤ n by omega) ha hb
  have hc' := ab_mono (show l ≤ n by omega) hc
  have q1 := Int.mul_le_mul_of_nonneg_right hc'.2.1 P
  have q2 := Int.mul_le_mul_of_nonneg_right hc'.2.2 P
  rw [Int.neg_mul] at q1
  have e : (2 : Int) ^ (n + 1) * 2 ^ 149 * 2 ^ 149 = 2 * (2 ^ n * 2 ^ 149 * 2 ^ 149) := by rw [p2_succ, Int.mul_assoc, Int.mul_assoc, Int.mul_assoc]
  have := fma_in ha.1 hb.1 hc.1 f2 f1 (by rw [v2, Int.neg_mul, e]; omega) (by rw [v1, e]; omega)
  rw [v1, v2] at this
  exact this
theorem ab_turn {i : Nat} {a : Int} (h : ab i a) : ab i (turnS 2 a) := by
  have ⟨f, v⟩ := turn_fin h.1
  exact ⟨f, by rw [v]; have := h.2.2; omega, by rw [v]; have := h.2.1; omega⟩
theorem ab_lit {k : Nat} {s : Int} (h : (decide (0 ≤ s) && (decide (s ≤ 4294967295) && (decide (s % 2147483648 < 2139095040) && (decide (-(2 ^ k * 2 ^ 149) ≤ vz s) && decide (vz s ≤ 2 ^ k * 2 ^ 149))))) = true) : ab k s := by
  simp only [Bool.and_eq_true, decide_eq_true_eq] at h
  exact ⟨⟨⟨h.1, by have := h.2.1; omega⟩, h.2.2.1⟩, h.2.2.2.1, h.2.2.2.2⟩
theorem ab_nan {k : Nat} {s : Int} (h : ab k s) : nan 2 s = false := fin_nan h.1
theorem units_near (neg : Bool) {e N : Int} (hN : 0 ≤ N) (he : -149 ≤ e) (h : ¬ e + ln N > 40) :
    -(2 ^ 149) ≤ 2 * ((unitsW 0 neg e N).1 * 2 ^ 149 - N * 2 ^ (e + 149).toNat) ∧ 2 * ((unitsW 0 neg e N).1 * 2 ^ 149 - N * 2 ^ (e + 149).toNat) ≤ 2 ^ 149 := by
  have P : (0 : Int) < 2 ^ 149 := p2_pos 149
  unfold unitsW
  rw [if_neg h]
  show -(2 ^ 149) ≤ 2 * (fin1 0 neg (qS N (-e)) (halfS N (-e)) (restS N (-e) false) * 2 ^ 149 - _) ∧ 2 * (fin1 0 neg (qS N (-e)) (halfS N (-e)) (restS N (-e) false) * 2 ^ 149 - _) ≤ _
  unfold fin1 upS qS halfS restS
  by_cases k : -e ≤ 0
  · rw [if_pos k, if_pos k, if_pos k]
    have : N * 2 ^ (- -e).toNat * 2 ^ 149 = N * 2 ^ (e + 149).toNat := by rw [Int.mul_assoc, ← p2_add]; congr 2; omega
    simp
    simp at this
    rw [this]; omega
  · rw [if_neg k, if_neg k, if_neg k]
    have e1 : (2 : Int) ^ 149 = 2 ^ (-e).toNat * 2 ^ (e + 149).toNat := by rw [← p2_add]; congr 1; omega
    have e2 : (2 : Int) ^ (-e).toNat = 2 ^ (-e - 1).toNat * 2 := by rw [Int.mul_comm, ← p2_succ]; congr 1; omega
    have p := p2_pos (-e).toNat
    have p1 := p2_pos (-e - 1).toNat
    have pe := p2_pos (e + 149).toNat
    have d := Int.mul_ediv_add_emod N (2 ^ (-e).toNat)
    have m0 := Int.emod_nonneg N (show (2 : Int) ^ (-e).toNat ≠ 0 by omega)
    have m1 := Int.emod_lt_of_pos N p
    have mm := mod_p2 N (-e - 1).toNat 1
    rw [show (-e - 1).toNat + 1 = (-e).toNat by omega] at mm
    have m2 := Int.emod_nonneg N (show (2 : Int) ^ (-e - 1).toNat ≠ 0 by omega)
    have m3 := Int.emod_lt_of_pos N p1
    rw [show (2 : Int) ^ 1 = 2 from rfl] at mm
    -- how far the whole one is
    have key : ∀ z : Int, -(2 ^ (-e).toNat) ≤ 2 * (z * 2 ^ (-e).toNat - N) → 2 * (z * 2 ^ (-e).toNat - N) ≤ 2 ^ (-e).toNat →
        -(2 ^ 149) ≤ 2 * (z * 2 ^ 149 - N * 2 ^ (e + 149).toNat) ∧ 2 * (z * 2 ^ 149 - N * 2 ^ (e + 149).toNat) ≤ 2 ^ 149 := by
      intro z z1 z2
      have y1 := Int.mul_le_mul_of_nonneg_right z1 (Int.le_of_lt pe)
      have y2 := Int.mul_le_mul_of_nonneg_right z2 (Int.le_of_lt pe)
      rw [e1]
      rw [Int.mul_assoc, Int.sub_mul, Int.mul_assoc z] at y1 y2
      rw [Int.neg_mul] at y1
      exact ⟨y1, y2⟩
    generalize hq : N / 2 ^ (-e).toNat = q at *
    generalize hh : N / 2 ^ (-e - 1).toNat % 2 = hb at *
    generalize hr : N % 2 ^ (-e - 1).toNat = r at *
    generalize (2 : Int) ^ (-e - 1).toNat = H at *
    generalize N % 2 ^ (-e).toNat = w at *
    generalize (2 : Int) ^ (-e).toNat = G at *
    have hb01 : hb = 0 ∨ hb = 1 := by omega
    simp only [show ¬ ((0 : Int) = 1) by decide, show ¬ ((0 : Int) = 2) by decide, show ¬ ((0 : Int) = 3) by decide, show ¬ ((0 : Int) = 4) by decide, if_false, Bool.false_or]
    rcases hb01 with rfl | rfl
    · rw [show decide ((0 : Int) = 1) = false by decide]
      simp only [Bool.false_and, Bool.false_eq_true, if_false]
      rw [Int.mul_zero] at mm
      apply key q <;> rw [Int.mul_comm q] <;> omega
    · rw [show decide ((1 : Int) = 1) = true by decide]
      simp only [Bool.true_and]
      rw [Int.mul_one] at mm
      split
      · apply key (q + 1) <;> rw [Int.mul_comm (q + 1), Int.mul_add] <;> omega
      · have hr0 : r = 0 := by
          apply Classical.byContradiction
          intro n
          rename_i hn
          exact hn (by simp [n])
        apply key q <;> rw [Int.mul_comm q] <;> omega
theorem wholef_near {m : Int} (h : ab 30 m) : -(2 ^ 149) ≤ 2 * (wholef m * 2 ^ 149 - vz m) ∧ 2 * (wholef m * 2 ^ 149 - vz m) ≤ 2 ^ 149 := by
  have P : (0 : Int) < 2 ^ 149 := p2_pos 149
  have xb := xp_bd 2 m
  have sb := sig_bd 2 m
  have hv : vz m = sv (sg 2 m) (sig 2 m * 2 ^ (xp 2 m + 149).toNat) := rfl
  have h1 := h.2.1
  have h2 := h.2.2
  rw [hv] at h1 h2
  have hN : sig 2 m * 2 ^ (xp 2 m + 149).toNat ≤ 2 ^ 30 * 2 ^ 149 := by
    unfold sv at h1 h2; cases hs : sg 2 m <;> rw [hs] at h1 h2 <;> simp at h1 h2 ⊢ <;> omega
  have hs : ¬ xp 2 m + ln (sig 2 m) > 40 := by
    intro k
    by_cases h0 : sig 2 m = 0
    · have hz : xp 2 m + ln (sig 2 m) > 40 := k
      rw [h0, ln_zero] at hz
      have hx : ex 2 m < 255 := (ex_fin 2 m).2 h.1.2
      have : xp 2 m = -149 ∨ sig 2 m ≥ 8388608 := by
        unfold xp sig
        have := ff_bd 2 m
        rw [show RR 2 = 256 from rfl, show BB 2 = 8388608 from rfl]
        by_cases z : ex 2 m = 0
        · left; rw [if_pos z]; rfl
        · right; rw [if_neg z, if_neg (by omega)]; omega
      omega
    · have hp : 0 < sig 2 m := by omega
      rw [ln_pos hp] at k
      have hl := lg_le hp
      have := Int.mul_le_mul_of_nonneg_right hl (show (0 : Int) ≤ 2 ^ (xp 2 m + 149).toNat by have := p2_pos (xp 2 m + 149).toNat; omega)
      rw [← p2_add] at this
      have c := p2_lt (show 30 + 149 < lg (sig 2 m) + (xp 2 m + 149).toNat by omega)
      rw [p2_add 30 149] at c
      omega
  have un := units_near (sg 2 m) (N := sig 2 m) sb.1 xb.1 hs
  have hf : nan 2 m = false ∧ inff 2 m = false := ⟨fin_nan h.1, fin_inf h.1⟩
  unfold wholef tointS
  rw [hf.1, hf.2]
  simp only [Bool.or_false, Bool.false_eq_true, if_false]
  generalize (unitsW 0 (sg 2 m) (xp 2 m) (sig 2 m)).1 = z at *
  generalize (unitsW 0 (sg 2 m) (xp 2 m) (sig 2 m)).2 = y at *
  have hz : z ≤ 2 ^ 30 + 1 ∧ -1 ≤ z := by
    have hnn : 0 ≤ sig 2 m * 2 ^ (xp 2 m + 149).toNat := Int.mul_nonneg sb.1 (by have := p2_pos (xp 2 m + 149).toNat; omega)
    constructor
    · apply Int.le_of_not_gt; intro k
      have := Int.mul_le_mul_of_nonneg_right (show (2 : Int) ^ 30 + 2 ≤ z by omega) (Int.le_of_lt P)
      rw [Int.add_mul] at this; omega
    · apply Int.le_of_not_gt; intro k
      have := Int.mul_le_mul_of_nonneg_right (show z ≤ -2 by omega) (Int.le_of_lt P)
      omega
  have c30 : (2 : Int) ^ 30 = 1073741824 := rfl
  rw [c30] at hz
  have wz : ∀ t : Int, -1073741826 ≤ t → t ≤ 1073741826 → IntKind.wrap .i32 t = t := fun t t1 t2 => wi32 (by omega)
  rw [hv]
  unfold sv
  cases hs2 : sg 2 m
  · simp only [Bool.false_eq_true, if_false]
    rw [wz z (by omega) (by omega), if_pos rfl]; exact un
  · simp only [if_true]
    rw [wz (-z) (by omega) (by omega), if_pos rfl]
    show -(2 ^ 149) ≤ 2 * (-z * 2 ^ 149 - -(sig 2 m * 2 ^ (xp 2 m + 149).toNat)) ∧ 2 * (-z * 2 ^ 149 - -(sig 2 m * 2 ^ (xp 2 m + 149).toNat)) ≤ 2 ^ 149
    rw [Int.neg_mul]; omega
theorem wholef_ab {k : Nat} (hk : k ≤ 29) {m : Int} (h : ab k m) : -(2 ^ (k + 1)) ≤ wholef m ∧ wholef m ≤ 2 ^ (k + 1) := by
  have P : (0 : Int) < 2 ^ 149 := p2_pos 149
  have n := wholef_near (ab_mono (show k ≤ 30 by omega) h)
  have h1 := h.2.1
  have h2 := h.2.2
  have pk := p2_pos k
  rw [p2_succ]
  constructor
  · apply Int.le_of_not_gt; intro q
    have := Int.mul_le_mul_of_nonneg_right (show wholef m ≤ -(2 * 2 ^ k) - 1 by omega) (Int.le_of_lt P)
    rw [Int.sub_mul, Int.neg_mul, Int.mul_assoc] at this
    have := Int.mul_le_mul_of_nonneg_right (show (1 : Int) ≤ 2 ^ k by omega) (Int.le_of_lt P)
    omega
  · apply Int.le_of_not_gt; intro q
    have := Int.mul_le_mul_of_nonneg_right (show 2 * 2 ^ k + 1 ≤ wholef m by omega) (Int.le_of_lt P)
    rw [Int.add_mul, Int.mul_assoc] at this
    have := Int.mul_le_mul_of_nonneg_right (show (1 : Int) ≤ 2 ^ k by omega) (Int.le_of_lt P)
    omega
theorem ab_int {k : Nat} (hk : k ≤ 62) {n : Int} (h : -(2 ^ k) ≤ n ∧ n ≤ 2 ^ k) : ab k (intf n) := by
  have P : (0 : Int) ≤ 2 ^ 298 := by have := p2_pos 298; omega
  obtain ⟨f1, v1, f2, v2⟩ := pw_fin (show k ≤ 127 by omega)
  have e : sv (decide (n < 0)) ((if n < 0 then -n else n) * 2 ^ ((0 : Int) + 298).toNat) = n * 2 ^ 298 := by
    unfold sv
    by_cases c : n < 0
    · rw [if_pos (decide_eq_true c), if_pos c, Int.neg_mul, Int.neg_neg]; rfl
    · rw [if_neg (by simp [c]), if_neg c]; rfl
  have e2 : (2 : Int) ^ 149 * 2 ^ 149 = 2 ^ 298 := by rw [← p2_add]
  have := pk_in (decide (n < 0)) (N := if n < 0 then -n else n) (e := 0) (by split <;> omega) (by decide) f2 f1
    (by rw [e, v2, Int.neg_mul, Int.mul_assoc, e2, ← Int.neg_mul]; exact Int.mul_le_mul_of_nonneg_right h.1 P)
    (by rw [e, v1, Int.mul_assoc, e2]; exact Int.mul_le_mul_of_nonneg_right h.2 P)
  rw [v1, v2] at this
  exact this
theorem exp_in {x : Int} (h : w32 x) (h0 : nan 2 x = false) (h1 : lt 2 1118925336 x = false) (h2 : lt 2 x 3268407733 = false) : ab 7 x := by
  have a1 := h.1
  have a2 := h.2
  have k1 : ky 2 x ≤ 1118925336 := by
    apply Int.le_of_not_gt; intro k
    have : lt 2 1118925336 x = true := by
      rw [lt_iff]; exact ⟨by decide, h0, fun q => by have := q.1; revert this; decide, by rw [show ky 2 1118925336 = 1118925336 by decide]; omega⟩
    rw [h1] at this; cases this
  have k2 : -1120924086 ≤ ky 2 x := by
    apply Int.le_of_not_gt; intro k
    have : lt 2 x 3268407733 = true := by
      rw [lt_iff]; exact ⟨h0, by decide, fun q => by have := q.2; revert this; decide, by rw [show ky 2 3268407733 = -1120924086 by decide]; omega⟩
    rw [h2] at this; cases this
  have hm : x % 2147483648 ≤ 1120924085 := by
    unfold ky at k1 k2
    rw [show TT 2 = 2147483648 from rfl] at k1 k2
    cases hs : sg 2 x <;> rw [hs] at k1 k2 <;> simp at k1 k2 <;> omega
  have c : mv 1120924085 ≤ 2 ^ 7 * 2 ^ 149 := by decide +kernel
  refine ⟨⟨h, by omega⟩, ?_, ?_⟩
  · by_cases k : x < 2147483648
    · rw [vz_pos h k]; have := mv_nn x; have := p2_pos 7; have := mv_nn 1120924085; omega
    · rw [vz_neg h (by omega)]
      have := mv_le (show 0 ≤ x - 2147483648 by omega) (show x - 2147483648 ≤ 1120924085 by omega) (by decide); omega
  · by_cases k : x < 2147483648
    · rw [vz_pos h k]
      have := mv_le a1 (show x ≤ 1120924085 by omega) (by decide); omega
    · rw [vz_neg h (by omega)]; have := mv_nn (x - 2147483648); have := mv_nn 1120924085; omega
theorem ab_poly {k : Nat} {x : Int} (hx : ab k x) : ∀ (l : List Int) (m : Nat) (p : Int), ab m p → (∀ c ∈ l, ab 0 c) → m + l.length * (k + 1) ≤ 127 → ab (m + l.length * (k + 1)) (polyS x p l)
  | [], m, p, hp, _, _ => by simpa [polyS] using hp
  | c :: l, m, p, hp, hl, hm => by
    have e : m + (c :: l).length * (k + 1) = m + k + 1 + l.length * (k + 1) := by simp only [List.length_cons, Nat.add_mul]; omega
    rw [e] at hm ⊢
    exact ab_poly hx l (m + k + 1) (fma p x c) (ab_fma (by omega) (by omega) (by omega) hp hx (hl c (by simp))) (fun d hd => hl d (by simp [hd])) hm
theorem expR_ab {x : Int} (h : ab 7 x) : ab 11 (expR x) ∧ ab 9 (turnS 2 (intf (wholef (mulf x 1069066811)))) := by
  have hm : ab 8 (mulf x 1069066811) := ab_mul (i := 7) (j := 1) (by decide) (by decide) h (ab_lit (by decide +kernel))
  have hn := wholef_ab (by decide) hm
  have hk := ab_turn (ab_int (k := 9) (by decide) hn)
  refine ⟨?_, hk⟩
  unfold expR
  exact ab_fma (i := 9) (j := 0) (l := 10) (by decide) (by decide) (by decide) hk (ab_lit (by decide +kernel)) (ab_fma (i := 9) (j := 0) (l := 7) (by decide) (by decide) (by decide) hk (ab_lit (by decide +kernel)) h)
theorem sgn_nan (f : Int) (n : Bool) {y : Int} (h0 : 0 ≤ y) (h : y ≤ IN f) : nan f (sgn f n + y) = false := by
  have ib := IN_bd f
  have fb := fmt_bd f
  unfold nan sgn
  apply decide_eq_false
  cases n
  · simp only [Bool.false_eq_true, if_false, Int.zero_add]
    rw [Int.emod_eq_of_lt h0 (by omega)]; omega
  · simp only [if_true]
    rw [Int.add_emod_left, Int.emod_eq_of_lt h0 (by omega)]; omega
theorem fin2_nan (f mode : Int) (n : Bool) (u q : Int) (h r s : Bool) (hq : 0 ≤ q) (hu : le f - MM f ≤ u) : nan f (fin2 f mode n u q h r s).1 = false := by
  have fb := fmt_bd f
  have ib := IN_bd f
  unfold fin2
  have hq3 : 0 ≤ (if q / (2 * BB f) = 0 then q else q / 2) := by split <;> omega
  generalize (if q / (2 * BB f) = 0 then q else q / 2) = q2 at *
  have hu2 : le f - MM f ≤ (if q / (2 * BB f) = 0 then u else u + 1) := by split <;> omega
  generalize (if q / (2 * BB f) = 0 then u else u + 1) = u2 at *
  have ha : 0 ≤ (if q2 / BB f = 0 then 0 else u2 + MM f - le f + 1) := by split <;> omega
  generalize (if q2 / BB f = 0 then 0 else u2 + MM f - le f + 1) = a at *
  have hm : 0 ≤ q2 % BB f ∧ q2 % BB f < BB f := by rcases fb.2.1 with h | h | h <;> rw [h] <;> omega
  by_cases o : a ≥ RR f - 1
  · rw [if_pos o]
    unfold overS
    show nan f (sgn f n + _) = false
    apply sgn_nan <;> split <;> omega
  · rw [if_neg o]
    show nan f (sgn f n + a * BB f + q2 % BB f) = false
    rw [Int.add_assoc]
    have h1 : (a + 1) * BB f ≤ (RR f - 1) * BB f := Int.mul_le_mul_of_nonneg_right (by omega) (by omega)
    have h2 : 0 ≤ a * BB f := Int.mul_nonneg ha (by omega)
    have h3 : IN f = (RR f - 1) * BB f := rfl
    rw [Int.add_mul] at h1
    apply sgn_nan <;> omega
theorem pk_nan (f mode : Int) (n : Bool) (e N : Int) (m : Bool) (hN : 0 ≤ N) : nan f (pk f mode n e N m).1 = false := by
  have fb := fmt_bd f
  have ib := IN_bd f
  have hq := q_bd f e N hN
  unfold pk
  split
  · have := sgn_nan f n (y := 0) (by omega) (by omega); rwa [Int.add_zero] at this
  · refine fin2_nan f mode n _ _ _ _ _ ?_ ?_
    · unfold fin1; split <;> omega
    · unfold unitS; split <;> omega
theorem exp_nan {x : Int} (h : w32 x) (h0 : nan 2 x = false) : nan 2 (expS x) = false := by
  unfold expS
  rw [if_neg (by rw [h0]; decide)]
  by_cases k1 : lt 2 1118925336 x = true
  · rw [if_pos k1]; decide
  rw [if_neg k1]
  by_cases k2 : lt 2 x 3268407733 = true
  · rw [if_pos k2]; decide
  rw [if_neg k2]
  have a := exp_in h h0 (by simpa using k1) (by simpa using k2)
  have hp := ab_poly (expR_ab a).1 [1007192201, 1026206379, 1042983595, 1056964608, 1065353216, 1065353216] 0 985008993 (ab_lit (by decide +kernel)) (by
    intro c hc
    simp only [List.mem_cons, List.not_mem_nil, or_false] at hc
    rcases hc with rfl | rfl | rfl | rfl | rfl | rfl <;> exact ab_lit (by decide +kernel)) (by decide)
  unfold expM scalef scaleS
  rw [fin_nan hp.1, fin_inf hp.1]
  simp only [Bool.false_or, Bool.false_eq_true, if_false]
  split
  · rename_i z
    have : zr 2 (polyS (expR x) 985008993 [1007192201, 1026206379, 1042983595, 1056964608, 1065353216, 1065353216] % (2 * TT 2)) = true := by
      unfold zr at z ⊢
      rw [show TT 2 = 2147483648 from rfl] at z ⊢
      rw [decide_eq_true_iff] at z ⊢
      show polyS _ _ _ % (2 * 2147483648) % 2147483648 = 0
      omega
    have hw := hp.1.2
    have hw1 := hp.1.1.1
    have hw2 := hp.1.1.2
    rw [show TT 2 = 2147483648 from rfl, Int.emod_eq_of_lt hw1 (by omega)]
    exact fin_nan hp.1
  · exact pk_nan _ _ _ _ _ _ (sig_bd 2 _).1
end Go.Proofs.Ytkknnloamidaiaa.VI

namespace Go.Proofs.Ytkknnloamidaiaa.VI
set_option linter.unusedVariables false
set_option linter.unusedSimpArgs false
set_option linter.unusedSimpArgs false
set_option linter.unusedVariables false
set_option maxRecDepth 100000
set_option maxHeartbeats 8000000
set_option exponentiation.threshold 2000
theorem infs_nan (f : Int) (n : Bool) : nan f (sgn f n + IN f) = false := sgn_nan f n (by have := IN_bd f; omega) (Int.le_refl _)
theorem sgn0_nan (f : Int) (n : Bool) : nan f (sgn f n) = false := by
  have := sgn_nan f n (y := 0) (Int.le_refl _) (by have := IN_bd f; omega)
  rwa [Int.add_zero] at this
theorem sum_nan (f mode : Int) (n : Bool) (e N : Int) (m : Bool) (d M : Int) : nan f (sumS f mode n e N m d M).1 = false := by
  unfold sumS
  split
  · exact sgn0_nan f n
  · unfold totS
    split
    · exact sgn0_nan f _
    · exact pk_nan _ _ _ _ _ _ (by split <;> omega)
theorem addf_ok {a b : Int} (ha : nan 2 a = false) (hb : nan 2 b = false) (h : (inff 2 a && (inff 2 b && !(sg 2 a == sg 2 b))) = false) : nan 2 (addf a b) = false := by
  unfold addf addS
  rw [ha, hb, h]
  simp only [Bool.or_false, Bool.false_eq_true, if_false]
  split
  · exact infs_nan 2 _
  split
  · exact infs_nan 2 _
  · exact sum_nan _ _ _ _ _ _ _ _
theorem mulf_ok {a b : Int} (ha : nan 2 a = false) (hb : nan 2 b = false) (h : (zr 2 a && inff 2 b || inff 2 a && zr 2 b) = false) : nan 2 (mulf a b) = false := by
  unfold mulf mulS
  rw [ha, hb, h]
  simp only [Bool.or_false, Bool.false_eq_true, if_false]
  split
  · exact infs_nan 2 _
  · exact pk_nan _ _ _ _ _ _ (Int.mul_nonneg (sig_bd 2 a).1 (sig_bd 2 b).1)
theorem fma_ok {a b c : Int} (ha : nan 2 a = false) (hb : nan 2 b = false) (hc : nan 2 c = false) (h : (zr 2 a && inff 2 b || inff 2 a && zr 2 b) = false) (hi : inff 2 c = false) : nan 2 (fma a b c) = false := by
  unfold fma fmaS
  rw [ha, hb, hc, h, hi]
  simp only [Bool.or_false, Bool.false_and, Bool.false_eq_true, if_false]
  split
  · exact infs_nan 2 _
  · exact sum_nan _ _ _ _ _ _ _ _
theorem divf_ok {a b : Int} (ha : nan 2 a = false) (hb : nan 2 b = false) (h : (zr 2 a && zr 2 b || inff 2 a && inff 2 b) = false) : nan 2 (divf a b) = false := by
  unfold divf divS
  rw [ha, hb, h]
  simp only [Bool.or_false, Bool.false_eq_true, if_false]
  split
  · exact infs_nan 2 _
  split
  · exact sgn0_nan 2 _
  split
  · exact infs_nan 2 _
  · exact pk_nan _ _ _ _ _ _ (Int.ediv_nonneg (Int.mul_nonneg (sig_bd 2 a).1 (by have := p2_pos (61 - lg (sig 2 a)); omega)) (sig_bd 2 b).1)
theorem turn_nan {x : Int} (h : w32 x) : nan 2 (turnS 2 x) = nan 2 x ∧ inff 2 (turnS 2 x) = inff 2 x ∧ zr 2 (turnS 2 x) = zr 2 x := by
  have h1 := h.1
  have h2 := h.2
  have e : turnS 2 x % 2147483648 = x % 2147483648 := by rw [turn2 h]; split <;> omega
  unfold nan inff zr
  rw [show TT 2 = 2147483648 from rfl, e]
  exact ⟨rfl, rfl, rfl⟩
theorem subf_ok {a b : Int} (hb32 : w32 b) (ha : nan 2 a = false) (hb : nan 2 b = false) (h : (inff 2 a && inff 2 b) = false) : nan 2 (subf a b) = false := by
  have e : subf a b = addf a (turnS 2 b) := by unfold subf subS addf; rw [ha, hb]; rfl
  obtain ⟨t1, t2, t3⟩ := turn_nan hb32
  rw [e]
  refine addf_ok ha (by rw [t1]; exact hb) ?_
  rw [t2, ← Bool.and_assoc, h]; rfl
theorem tanT_nan {a : Int} (h : w32 a) (ha : nan 2 a = false) : nan 2 (tanT a) = false := by
  have k1 : nan 2 (addf a a) = false := addf_ok ha ha (by cases inff 2 a <;> simp)
  have k2 := exp_nan (addf_w a a) k1
  have k3 : nan 2 (addf (expS (addf a a)) 1065353216) = false := addf_ok k2 (by decide) (by rw [show inff 2 1065353216 = false by decide]; simp)
  have k4 : nan 2 (divf 1073741824 (addf (expS (addf a a)) 1065353216)) = false := divf_ok (by decide) k3 (by rw [show zr 2 1073741824 = false by decide, show inff 2 1073741824 = false by decide]; rfl)
  exact subf_ok (divf_w _ _) (by decide) k4 (by rw [show inff 2 1065353216 = false by decide]; rfl)
theorem tanA_nan {a : Int} (h : w32 a) (ha : nan 2 a = false) : nan 2 (tanA a) = false := by
  unfold tanA
  split
  · decide
  · exact tanT_nan h ha
theorem infs_inf (n : Bool) : inff 2 (sgn 2 n + IN 2) = true ∧ zr 2 (sgn 2 n + IN 2) = false := by cases n <;> decide
theorem not_both (z : Int) : (zr 2 z && inff 2 z) = false := by
  unfold zr inff
  rw [show TT 2 = 2147483648 from rfl, show IN 2 = 2139095040 from rfl]
  by_cases h : z % 2147483648 = 0 <;> simp [h]
theorem num_cls {z : Int} (w : w32 z) (hn : nan 2 z = false) (hi : inff 2 z = false) : fnt z := by
  refine ⟨w, ?_⟩
  unfold nan at hn; unfold inff at hi
  rw [show TT 2 = 2147483648 from rfl, show IN 2 = 2139095040 from rfl] at hn hi
  rw [decide_eq_false_iff_not] at hn hi; omega
theorem zr_vl {z : Int} (w : w32 z) (hz : zr 2 z = true) : sig 2 z = 0 := by
  have : nan 2 z = false ∧ inff 2 z = false := by
    unfold zr at hz; unfold nan inff
    rw [show TT 2 = 2147483648 from rfl, decide_eq_true_iff] at hz
    rw [show TT 2 = 2147483648 from rfl, show IN 2 = 2139095040 from rfl, decide_eq_false_iff_not, decide_eq_false_iff_not]; omega
  exact (sig_zero 2 z this.1 this.2).2 hz
theorem mulf_zr {a b : Int} (ha : fnt a) (hb : fnt b) (h : zr 2 a = true ∨ zr 2 b = true) : zr 2 (mulf a b) = true := by
  have hs : sig 2 a * sig 2 b = 0 := by
    rcases h with h | h
    · rw [zr_vl ha.1 h, Int.zero_mul]
    · rw [zr_vl hb.1 h, Int.mul_zero]
  unfold mulf mulS
  rw [fin_nan ha, fin_nan hb, fin_inf ha, fin_inf hb]
  simp only [Bool.or_false, Bool.and_false, Bool.false_and, Bool.false_eq_true, if_false]
  rw [hs]
  unfold pk
  rw [if_pos ⟨rfl, rfl⟩]
  generalize (!(sg 2 a == sg 2 b)) = n
  cases n <;> decide
theorem mulf_inf {a b : Int} (ha : nan 2 a = false) (hb : nan 2 b = false) (h : (zr 2 a && inff 2 b || inff 2 a && zr 2 b) = false) (hi : (inff 2 a || inff 2 b) = true) : inff 2 (mulf a b) = true ∧ zr 2 (mulf a b) = false := by
  unfold mulf mulS
  rw [ha, hb, h, hi]
  simp only [Bool.or_false, Bool.false_eq_true, if_false, if_true]
  exact infs_inf _
theorem fma_inf {a b c : Int} (ha : nan 2 a = false) (hb : nan 2 b = false) (hc : nan 2 c = false) (h : (zr 2 a && inff 2 b || inff 2 a && zr 2 b) = false) (hi : inff 2 c = false) (hj : (inff 2 a || inff 2 b) = true) : inff 2 (fma a b c) = true ∧ zr 2 (fma a b c) = false := by
  unfold fma fmaS
  rw [ha, hb, hc, h, hi, hj]
  simp only [Bool.or_false, Bool.false_and, Bool.false_eq_true, if_false, if_true]
  exact infs_inf _
theorem fma_z {a b c : Int} (ha : fnt a) (hb : fnt b) (hc : fnt c) (hz : zr 2 b = true) : fnt (fma a b c) := by
  have v : vz b = 0 := by unfold vz mv; rw [zr_vl hb.1 hz, Int.zero_mul]; cases sg 2 b <;> rfl
  exact (fma_in ha hb hc hc hc (by rw [v, Int.mul_zero]; omega) (by rw [v, Int.mul_zero]; omega)).1
theorem poly_nan {z : Int} (wz : w32 z) (nz : nan 2 z = false) : ∀ (l : List Int) (p : Int), w32 p → nan 2 p = false → (zr 2 z = true → inff 2 p = false) → (inff 2 z = true → zr 2 p = false) → (∀ c ∈ l, fnt c) →
    nan 2 (polyS z p l) = false ∧ (zr 2 z = true → inff 2 (polyS z p l) = false) ∧ (inff 2 z = true → zr 2 (polyS z p l) = false)
  | [], p, _, h1, h2, h3, _ => ⟨h1, h2, h3⟩
  | c :: l, p, wp, h1, h2, h3, hl => by
    have fc := hl c (by simp)
    have h4 : (zr 2 p && inff 2 z || inff 2 p && zr 2 z) = false := by
      cases hz : zr 2 z
      · cases hi : inff 2 z
        · simp
        · rw [h3 hi]; simp
      · rw [h2 hz]
        have := not_both z
        rw [hz] at this
        rw [Bool.true_and] at this
        rw [this]; simp
    refine poly_nan wz nz l (fma p z c) (fma_w _ _ _) (fma_ok h1 nz (fin_nan fc) h4 (fin_inf fc)) (fun hz => ?_) (fun hi => ?_) (fun d hd => hl d (by simp [hd]))
    · have fp := num_cls wp h1 (h2 hz)
      have hzi : inff 2 z = false := by have := not_both z; rw [hz] at this; simpa using this
      exact fin_inf (fma_z fp (num_cls wz nz hzi) fc hz)
    · exact (fma_inf h1 nz (fin_nan fc) h4 (fin_inf fc) (by rw [hi]; simp)).2
theorem cosP_nan {y : Int} (w : w32 y) (hn : nan 2 y = false) : nan 2 (mulf y (polyS (mulf y y) 3109031169 [1007192201, 3190467243, 1065353216])) = false := by
  have nb := not_both y
  have hyy : (zr 2 y && inff 2 y || inff 2 y && zr 2 y) = false := by rw [nb, Bool.and_comm, nb]; rfl
  have nz : nan 2 (mulf y y) = false := mulf_ok hn hn hyy
  have fl : ∀ s : Int, (decide (0 ≤ s) && (decide (s ≤ 4294967295) && decide (s % 2147483648 < 2139095040))) = true → fnt s := fun s h => by
    simp only [Bool.and_eq_true, decide_eq_true_eq] at h
    exact ⟨⟨h.1, by have := h.2.1; omega⟩, h.2.2⟩
  obtain ⟨p1, p2, p3⟩ := poly_nan (mulf_w y y) nz [1007192201, 3190467243, 1065353216] 3109031169 (wlit rfl) (by decide) (fun _ => by decide) (fun _ => by decide) (by
    intro c hc
    simp only [List.mem_cons, List.not_mem_nil, or_false] at hc
    rcases hc with rfl | rfl | rfl <;> exact fl _ (by decide))
  refine mulf_ok hn p1 ?_
  cases hz : zr 2 y
  · cases hi : inff 2 y
    · simp
    · rw [p3 (mulf_inf hn hn hyy (by rw [hi]; rfl)).1]; simp
  · have hi : inff 2 y = false := by rw [hz] at nb; simpa using nb
    have fy := num_cls w hn hi
    rw [p2 (mulf_zr fy fy (Or.inl hz)), hi]; rfl
theorem cosY_nan {x : Int} (h : w32 x) (hn : nan 2 x = false) : nan 2 (cosY x) = false := by
  have k1 : nan 2 (subf x 1056964608) = false := subf_ok (wlit rfl) hn (by decide) (by rw [show inff 2 1056964608 = false by decide]; simp)
  exact mulf_ok (by decide) k1 (by rw [show zr 2 1078530011 = false by decide, show inff 2 1078530011 = false by decide]; rfl)
theorem minusr_eq (f : Int) {a : Int} (h : w32 a) : F_annealref1_Minus f a = some (if nan f a then a % (2 * TT f) else turnS f a) := by
  have hb := mod_bd f a
  have hs := sg_iff f a h.1
  unfold F_annealref1_Minus
  rw [nans_eq f [a] (by simp) (by simpa using h), maskr_eq, signr_eq]
  simp only [Option.bind_some, List.any_cons, List.any_nil, Bool.or_false, if_true]
  rw [and_TT f h.1 h.2]
  cases nan f a
  · simp only [cond_false, Bool.false_eq_true, if_false]
    congr 1
    have hT := TT_cs f
    have h1 := h.1
    have h2 := h.2
    unfold turnS
    rcases hT with e | e <;> rw [e] at hb hs ⊢
    · have x1 := u32_xor (a := a.toNat) (b := 32768) (by omega) (by decide)
      have x2 := u32_xor_lt (a := a.toNat) (b := 32768) (by omega) (by decide)
      rw [show ((a.toNat : Nat) : Int) = a by omega] at x1
      rw [show (32768 : Int) = ((32768 : Nat) : Int) from rfl, x1]
      have am := and_mask32 ((a.toNat ^^^ 32768 : Nat) : Int) 16 (by omega) (by omega) (by decide)
      rw [show (2 * ((32768 : Nat) : Int) - 1) = 2 ^ 16 - 1 from rfl, am]
      have x3 : ((a.toNat ^^^ 32768 : Nat) : Int) % 2 ^ 16 = (((a.toNat % 65536) ^^^ 32768 : Nat) : Int) := by
        rw [show ((2 : Int) ^ 16) = ((65536 : Nat) : Int) from rfl, ← Int.natCast_emod, show (65536 : Nat) = 2 ^ 16 from rfl, Nat.xor_mod_two_pow]
      rw [x3]
      have x4 := xor_top32 (a % (2 * 32768)) 15 (by decide) hb.1 hb.2.1
      have x5 := u32_xor (a := a.toNat % 65536) (b := 32768) (by omega) (by decide)
      rw [show ((a.toNat % 65536 : Nat) : Int) = a % (2 * 32768) by omega, show (((32768 : Nat) : Int)) = 2 ^ 15 from rfl, x4] at x5
      rw [← x5, show (2 : Int) ^ 15 = 32768 from rfl]
      by_cases hh : sg f a = true
      · rw [if_pos hh, if_neg (by have := hs.1 hh; omega)]
        rfl
      · rw [if_neg hh, if_pos (by have : ¬ 32768 ≤ a % (2 * 32768) := fun k => hh (hs.2 k); omega)]
        rfl
    · have x4 := xor_top32 (a % (2 * 2147483648)) 31 (by decide) hb.1 hb.2.1
      have ea : a % (2 * 2147483648) = a := Int.emod_eq_of_lt h1 (by omega)
      rw [ea, show (2 : Int) ^ 31 = 2147483648 from rfl] at x4
      rw [x4, ea]
      have am : ∀ y, w32 y → bits .and .u32 y (2 * 2147483648 - 1) = y := fun y hy => by
        have := and_mask32 y 32 hy.1 hy.2 (by decide)
        rw [show (2 : Int) ^ 32 - 1 = 2 * 2147483648 - 1 from rfl] at this
        rw [this]; exact Int.emod_eq_of_lt hy.1 (by have := hy.2; omega)
      by_cases hh : sg f a = true
      · have := hs.1 hh
        rw [if_pos hh, if_neg (by omega), am _ ⟨by omega, by omega⟩]
      · have : ¬ 2147483648 ≤ a % (2 * 2147483648) := fun k => hh (hs.2 k)
        rw [if_neg hh, if_pos (by omega), am _ ⟨by omega, by omega⟩]
  · rfl
end Go.Proofs.Ytkknnloamidaiaa.VI

namespace Go.Proofs.Ytkknnloamidaiaa.VI
set_option linter.unusedVariables false
set_option linter.unusedSimpArgs false
set_option linter.unusedSimpArgs false
set_option linter.unusedVariables false
set_option maxRecDepth 100000
set_option maxHeartbeats 8000000
set_option exponentiation.threshold 2000
theorem pk_sticky (n : Bool) (e : Int) {X : Int} (hX : 16777216 ≤ X) : pk 2 0 n e X true = pk 2 0 n (e - 1) (2 * X + 1) false := by
  have h := pk_coarse 2 0 n (e - 1) (2 * X + 1) 1 false (by rw [show BB 2 = 8388608 from rfl, show (2 : Int) ^ 1 = 2 from rfl]; omega)
  rw [show (2 : Int) ^ 1 = 2 from rfl, show (2 * X + 1) / 2 = X by omega, show (2 * X + 1) % 2 = 1 by omega, show e - 1 + ((1 : Nat) : Int) = e by omega] at h
  exact h
theorem pk_even (n : Bool) (e : Int) {X : Int} (hX : 16777216 ≤ X) : pk 2 0 n e X false = pk 2 0 n (e - 1) (2 * X) false := by
  have h := pk_coarse 2 0 n (e - 1) (2 * X) 1 false (by rw [show BB 2 = 8388608 from rfl, show (2 : Int) ^ 1 = 2 from rfl]; omega)
  rw [show (2 : Int) ^ 1 = 2 from rfl, show (2 * X) / 2 = X by omega, show (2 * X) % 2 = 0 by omega, show e - 1 + ((1 : Nat) : Int) = e by omega] at h
  exact h
theorem div_mag {a b : Int} (fa : fnt a) (fb : fnt b) (za : zr 2 a = false) (zb : zr 2 b = false) (he : -290 ≤ xp 2 a - (61 - lg (sig 2 a)) - xp 2 b) :
    ∃ M : Int, 0 ≤ M ∧ M ≤ 2139095040 ∧ divf a b = sgn 2 (!(sg 2 a == sg 2 b)) + M
      ∧ (∀ c, 0 ≤ c → c < 2139095040 → mv a * 2 ^ 149 ≤ mv c * mv b → M ≤ c)
      ∧ (∀ c, 0 ≤ c → c < 2139095040 → mv c * mv b ≤ mv a * 2 ^ 149 → c ≤ M) := by
  have na := fin_nan fa
  have nb := fin_nan fb
  have ia := fin_inf fa
  have ib := fin_inf fb
  have sa : 0 < sig 2 a := by
    have := (sig_zero 2 a na ia).1
    have h0 := (sig_bd 2 a).1
    have h1 : sig 2 a ≠ 0 := fun k => by rw [this k] at za; cases za
    omega
  have sb : 0 < sig 2 b := by
    have := (sig_zero 2 b nb ib).1
    have h0 := (sig_bd 2 b).1
    have h1 : sig 2 b ≠ 0 := fun k => by rw [this k] at zb; cases zb
    omega
  have sa2 := (sig_bd 2 a).2
  have sb2 := (sig_bd 2 b).2
  rw [show BB 2 = 8388608 from rfl] at sa2 sb2
  have xa := xp_bd 2 a
  have xb := xp_bd 2 b
  have hd : divf a b = (pk 2 0 (!(sg 2 a == sg 2 b)) (xp 2 a - (61 - lg (sig 2 a)) - xp 2 b) (sig 2 a * 2 ^ (61 - lg (sig 2 a)) / sig 2 b) (decide (sig 2 a * 2 ^ (61 - lg (sig 2 a)) % sig 2 b ≠ 0))).1 := by
    unfold divf divS
    rw [na, nb, ia, ib, za, zb]
    rfl
  have xaL := Int.le_refl (mv a)
  have eA : mv a = sig 2 a * 2 ^ (xp 2 a + 149).toNat := rfl
  have eB : mv b = sig 2 b * 2 ^ (xp 2 b + 149).toNat := rfl
  have hxa : -149 ≤ xp 2 a := by omega
  have hxb : -149 ≤ xp 2 b := by omega
  have hlg : lg (sig 2 a) < 24 := lg_bd sa (by have : (2 : Int) ^ 24 = 16777216 := rfl; omega)
  have hlt := lg_le sa
  rw [hd]
  generalize (!(sg 2 a == sg 2 b)) = n
  generalize sig 2 a = A at *
  generalize sig 2 b = B at *
  generalize xp 2 a = x at *
  generalize xp 2 b = y at *
  obtain ⟨s, hs⟩ : ∃ s : Nat, s = 61 - lg A := ⟨_, rfl⟩
  have hsI : (61 - (lg A : Int)) = (s : Int) := by omega
  rw [hsI] at he ⊢
  rw [← hs]
  have ps := p2_pos s
  -- the quotient
  have hW : 2 ^ 61 ≤ A * 2 ^ s := by
    have := Int.mul_le_mul_of_nonneg_right hlt (Int.le_of_lt ps)
    rwa [← p2_add, show lg A + s = 61 by omega] at this
  have dm := Int.mul_ediv_add_emod (A * 2 ^ s) B
  have m0 := Int.emod_nonneg (A * 2 ^ s) (show B ≠ 0 by omega)
  have m1 := Int.emod_lt_of_pos (A * 2 ^ s) sb
  have hX : 2 ^ 37 ≤ A * 2 ^ s / B := by
    rw [Int.le_ediv_iff_mul_le sb]
    have c1 : (2 : Int) ^ 37 = 137438953472 := rfl
    have c2 : (2 : Int) ^ 61 = 2305843009213693952 := rfl
    omega
  generalize hq : A * 2 ^ s / B = X at *
  generalize hr : A * 2 ^ s % B = R at *
  have c37 : (2 : Int) ^ 37 = 137438953472 := rfl
  -- one number without a rest
  obtain ⟨t, ht0, hp⟩ : ∃ t : Int, (t = (if R = 0 then 0 else 1)) ∧ pk 2 0 n (x - s - y) X (decide (R ≠ 0)) = pk 2 0 n (x - s - y - 1) (2 * X + t) false := by
    by_cases k : R = 0
    · refine ⟨0, by rw [if_pos k], ?_⟩
      rw [show decide (R ≠ 0) = false by simp [k], pk_even n _ (by omega), Int.add_zero]
    · refine ⟨1, by rw [if_neg k], ?_⟩
      rw [show decide (R ≠ 0) = true by simp [k], pk_sticky n _ (by omega)]
  have htb : 0 ≤ t ∧ t ≤ 1 := by rw [ht0]; split <;> omega
  rw [hp]
  obtain ⟨M, M0, M1, hM, up, dn⟩ := rnd_mag n (e := x - s - y - 1) (N := 2 * X + t) (by omega) (by omega)
  refine ⟨M, M0, M1, hM, ?_, ?_⟩
  · intro c h0 h1 hc
    apply up c h0 h1
    obtain ⟨b1, b2, b3, b4, b5, b6⟩ := code_parts h0 h1
    rw [mv_up]
    have eC : mv c = sig 2 c * 2 ^ (xp 2 c + 149).toNat := rfl
    rw [eA, eB, eC] at hc
    generalize sig 2 c = S at *
    generalize xp 2 c = Y at *
    have p1 := p2_pos (x + 149).toNat
    -- A 2^x 2^149 <= S 2^Y B 2^y, so (A 2^s) 2^(x - s) ..
    have hc2 : (A * 2 ^ s) * 2 ^ (x - s - y + 298).toNat ≤ S * B * 2 ^ (Y + 298).toNat := by
      have k := Int.mul_le_mul_of_nonneg_right hc (show (0 : Int) ≤ 2 ^ 600 by have := p2_pos 600; omega)
      have e1 : A * 2 ^ (x + 149).toNat * 2 ^ 149 * 2 ^ 600 = (A * 2 ^ s) * 2 ^ (x - s - y + 298).toNat * 2 ^ (y + 600).toNat := by
        simp only [Int.mul_assoc]; congr 1
        rw [← p2_add, ← p2_add, ← p2_add, ← p2_add]; congr 1; omega
      have e2 : S * 2 ^ (Y + 149).toNat * (B * 2 ^ (y + 149).toNat) * 2 ^ 600 = S * B * 2 ^ (Y + 298).toNat * 2 ^ (y + 600).toNat := by
        rw [show S * 2 ^ (Y + 149).toNat * (B * 2 ^ (y + 149).toNat) * 2 ^ 600 = S * B * (2 ^ (Y + 149).toNat * (2 ^ (y + 149).toNat * 2 ^ 600)) by
          simp only [Int.mul_assoc, Int.mul_left_comm, Int.mul_comm]]
        rw [Int.mul_assoc (S * B)]; congr 1
        rw [← p2_add, ← p2_add, ← p2_add]; congr 1; omega
      rw [e1, e2] at k
      exact Int.le_of_mul_le_mul_right k (p2_pos _)
    have hY : x - s - y ≤ Y := by
      apply Int.le_of_not_gt; intro k
      obtain ⟨d, hd⟩ : ∃ d : Nat, (x - s - y + 298).toNat = d + (Y + 298).toNat := ⟨(x - s - y - Y).toNat, by omega⟩
      rw [hd, p2_add, ← Int.mul_assoc] at hc2
      have k1 := Int.le_of_mul_le_mul_right hc2 (p2_pos _)
      have k2 : A * 2 ^ s * 1 ≤ A * 2 ^ s * 2 ^ d := Int.mul_le_mul_of_nonneg_left (by have := p2_pos d; omega) (by have := p2_pos 61; omega)
      have k3 : S * B ≤ 16777216 * B := Int.mul_le_mul_of_nonneg_right (by omega) (by omega)
      have c2 : (2 : Int) ^ 61 = 2305843009213693952 := rfl
      omega
    obtain ⟨d, hd⟩ : ∃ d : Nat, (Y + 298).toNat = d + (x - s - y + 298).toNat := ⟨(Y - (x - s - y)).toNat, by omega⟩
    rw [hd, p2_add, ← Int.mul_assoc] at hc2
    have k1 := Int.le_of_mul_le_mul_right hc2 (p2_pos _)
    rw [show S * B * 2 ^ d = B * (S * 2 ^ d) by simp only [Int.mul_assoc, Int.mul_left_comm, Int.mul_comm], ← dm] at k1
    -- X (+ 1 if there is a rest) is at most S 2^d
    have k2 : X + t ≤ S * 2 ^ d := by
      apply Int.le_of_not_gt; intro k
      have : S * 2 ^ d + 1 ≤ X + t := k
      by_cases r0 : R = 0
      · rw [if_pos r0] at ht0
        have := Int.mul_le_mul_of_nonneg_left (show S * 2 ^ d + 1 ≤ X by omega) (show 0 ≤ B by omega)
        rw [Int.mul_add, Int.mul_one] at this; omega
      · rw [if_neg r0] at ht0
        have := Int.mul_le_mul_of_nonneg_left (show S * 2 ^ d ≤ X by omega) (show 0 ≤ B by omega)
        omega
    obtain ⟨z, hz⟩ : ∃ z : Nat, (x - s - y - 1 + 298).toNat = z := ⟨_, rfl⟩
    have hz2 : (x - s - y + 298).toNat = z + 1 := by omega
    rw [hd, hz, p2_add, hz2, p2_succ]
    have := Int.mul_le_mul_of_nonneg_right (show 2 * X + t ≤ 2 * (S * 2 ^ d) by omega) (Int.le_of_lt (p2_pos z))
    rw [show S * (2 ^ d * (2 * 2 ^ z)) = 2 * (S * 2 ^ d) * 2 ^ z by simp only [Int.mul_assoc, Int.mul_left_comm, Int.mul_comm]]
    exact this
  · intro c h0 h1 hc
    apply dn c h0 h1
    obtain ⟨b1, b2, b3, b4, b5, b6⟩ := code_parts h0 h1
    rw [mv_up]
    have eC : mv c = sig 2 c * 2 ^ (xp 2 c + 149).toNat := rfl
    rw [eA, eB, eC] at hc
    generalize sig 2 c = S at *
    generalize xp 2 c = Y at *
    have hc2 : S * B * 2 ^ (Y + 298).toNat ≤ (A * 2 ^ s) * 2 ^ (x - s - y + 298).toNat := by
      have k := Int.mul_le_mul_of_nonneg_right hc (show (0 : Int) ≤ 2 ^ 600 by have := p2_pos 600; omega)
      have e1 : A * 2 ^ (x + 149).toNat * 2 ^ 149 * 2 ^ 600 = (A * 2 ^ s) * 2 ^ (x - s - y + 298).toNat * 2 ^ (y + 600).toNat := by
        simp only [Int.mul_assoc]; congr 1
        rw [← p2_add, ← p2_add, ← p2_add, ← p2_add]; congr 1; omega
      have e2 : S * 2 ^ (Y + 149).toNat * (B * 2 ^ (y + 149).toNat) * 2 ^ 600 = S * B * 2 ^ (Y + 298).toNat * 2 ^ (y + 600).toNat := by
        rw [show S * 2 ^ (Y + 149).toNat * (B * 2 ^ (y + 149).toNat) * 2 ^ 600 = S * B * (2 ^ (Y + 149).toNat * (2 ^ (y + 149).toNat * 2 ^ 600)) by
          simp only [Int.mul_assoc, Int.mul_left_comm, Int.mul_comm]]
        rw [Int.mul_assoc (S * B)]; congr 1
        rw [← p2_add, ← p2_add, ← p2_add]; congr 1; omega
      rw [e1, e2] at k
      exact Int.le_of_mul_le_mul_right k (p2_pos _)
    obtain ⟨z, hz⟩ : ∃ z : Nat, (x - s - y - 1 + 298).toNat = z := ⟨_, rfl⟩
    have hz2 : (x - s - y + 298).toNat = z + 1 := by omega
    rw [hz]
    by_cases hY : x - s - y ≤ Y
    · obtain ⟨d, hd⟩ : ∃ d : Nat, (Y + 298).toNat = d + (x - s - y + 298).toNat := ⟨(Y - (x - s - y)).toNat, by omega⟩
      rw [hd, p2_add, ← Int.mul_assoc] at hc2
      have k1 := Int.le_of_mul_le_mul_right hc2 (p2_pos _)
      rw [show S * B * 2 ^ d = B * (S * 2 ^ d) by simp only [Int.mul_assoc, Int.mul_left_comm, Int.mul_comm], ← dm] at k1
      have k2 : S * 2 ^ d ≤ X := by
        apply Int.le_of_not_gt; intro k
        have := Int.mul_le_mul_of_nonneg_left (show X + 1 ≤ S * 2 ^ d by omega) (show 0 ≤ B by omega)
        rw [Int.mul_add, Int.mul_one] at this; omega
      rw [hd, p2_add, hz2, p2_succ]
      rw [show S * (2 ^ d * (2 * 2 ^ z)) = 2 * (S * 2 ^ d) * 2 ^ z by simp only [Int.mul_assoc, Int.mul_left_comm, Int.mul_comm]]
      exact Int.mul_le_mul_of_nonneg_right (by omega) (Int.le_of_lt (p2_pos z))
    · obtain ⟨d, hd⟩ : ∃ d : Nat, z = d + (Y + 298).toNat := ⟨(x - s - y - 1 - Y).toNat, by omega⟩
      rw [hd, p2_add, ← Int.mul_assoc]
      apply Int.mul_le_mul_of_nonneg_right _ (Int.le_of_lt (p2_pos _))
      have : (2 * X + t) * 1 ≤ (2 * X + t) * 2 ^ d := Int.mul_le_mul_of_nonneg_left (by have := p2_pos d; omega) (by omega)
      omega
end Go.Proofs.Ytkknnloamidaiaa.VI
