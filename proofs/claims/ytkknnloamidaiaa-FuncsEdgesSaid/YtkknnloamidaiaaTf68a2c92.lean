import Derived.Test.YtkknnloamidaiaaT3a5141be
namespace Go.Proofs.Ytkknnloamidaiaa.VI
set_option linter.unusedVariables false
set_option linter.unusedSimpArgs false
set_option linter.unusedSimpArgs false
set_option linter.unusedVariables false
set_option maxRecDepth 100000
set_option maxHeartbeats 4000000
def turnS (f a : Int) : Int := if sg f a then a % (2 * TT f) - TT f else a % (2 * TT f) + TT f
theorem turn_wf' (f : Int) {a : Int} (h : w32 a) : wf f (turnS f a) := by
  have hb := mod_bd f a
  have hs := sg_iff f a h.1
  have hT := TT_cs f
  unfold turnS
  cases hq : sg f a
  · have : ¬ TT f ≤ a % (2 * TT f) := fun k => by rw [hs.2 k] at hq; cases hq
    simp; exact ⟨by omega, by omega⟩
  · have := hs.1 hq; simp; exact ⟨by omega, by omega⟩
theorem turn_eq2 (f : Int) {a : Int} (h : w32 a) : F_format_Turn f a = some (turnS f a) := turn_eq f h
def subS (f mode a b : Int) : Int × ExcT × Unit :=
  if nan f a || nan f b then (NN f, (loud f a || loud f b, false, false, false, false, ()), ()) else addS f mode a (turnS f b)
theorem sub_eq (f mode : Int) {a b : Int} (ha : w32 a) (hb : w32 b) : F_sum_Sub f mode a b = some (subS f mode a b) := by
  unfold F_sum_Sub subS
  rw [snans_eq f [a, b] (by simp) (by simpa using ⟨ha, hb⟩), turn_eq2 f hb]
  simp only [Option.bind_some, List.any_cons, List.any_nil, Bool.or_false]
  rw [add_eq f mode ha (wf_w (turn_wf' f hb))]
  cases nan f a <;> cases nan f b <;> rfl
theorem sub_wf (f mode a b : Int) : wf f (subS f mode a b).1 := by
  unfold subS; split
  · exact NN_wf f
  · exact add_wf _ _ _ _
def fintS (f mode v : Int) : Int × ExcT × Unit := pk f mode (decide (v < 0)) 0 (if v < 0 then -v else v) false
theorem fint_eq (f mode : Int) {v : Int} (h : -9223372036854775808 ≤ v ∧ v ≤ 9223372036854775807) : F_whole_FromInt f mode v = some (fintS f mode v) := by
  unfold F_whole_FromInt F_whole_amount fintS
  have e : (bif decide (v < 0) then some (IntKind.u64.wrap (0 - IntKind.u64.wrap v)) else some (IntKind.u64.wrap v)) = some (if v < 0 then -v else v) := by
    rw [bif_dec]
    by_cases k : v < 0
    · rw [if_pos k, if_pos k, wu64_eq, wu64_eq]; congr 1; omega
    · rw [if_neg k, if_neg k, wu64 (by omega)]
  rw [e]
  simp only [Option.bind_some]
  rw [pack_eq f mode _ _ (show w64 (if v < 0 then -v else v) from ⟨by split <;> omega, by split <;> omega⟩)]
  rfl
def scaleS (f mode a n : Int) : Int × ExcT × Unit :=
  if nan f a then (NN f, (loud f a, false, false, false, false, ()), ())
  else if inff f a || zr f a then (a % (2 * TT f), EXC0, ())
  else pk f mode (sg f a) (xp f a + min (max n (-5000)) 5000) (sig f a) false
theorem scale_eq (f mode : Int) {a : Int} (n : Int) (ha : w32 a) : F_whole_Scale f mode a n = some (scaleS f mode a n) := by
  have xa := xp_bd f a
  unfold F_whole_Scale F_whole_apart scaleS
  rw [snans_eq f [a] (by simp) (by simpa using ha), mask_eq, isinf_eq f ha, iszero_eq f ha, of_eq f ha]
  simp only [Option.bind_some, List.any_cons, List.any_nil, Bool.or_false, mn_eq, mx_eq, and_TT f ha.1 ha.2]
  rw [wi64 (by omega), pack_eq f mode _ _ (sig_w64 f a), show min (max (xp f a + min (max n (-5000)) 5000) (-10000)) 10000 = xp f a + min (max n (-5000)) 5000 by omega]
  rcases cls f a with ⟨a1, a3, a4⟩ | ⟨a1, a2, a3, a4⟩ | ⟨a1, a2, a3, a4⟩ | ⟨a1, a2, a3, a4⟩ <;> simp only [a1, a3, a4] <;> rfl
def unitsW (mode : Int) (n : Bool) (e N : Int) : Int × Bool :=
  if e + ln N > 40 then (1099511627776, false)
  else (fin1 mode n (qS N (-e)) (halfS N (-e)) (restS N (-e) false), halfS N (-e) || restS N (-e) false)
theorem toq_bd {e N : Int} (hN : 0 ≤ N) (h : ¬ e + ln N > 40) : 0 ≤ qS N (-e) ∧ qS N (-e) ≤ 1099511627776 := by
  unfold qS
  by_cases h0 : N = 0
  · subst h0; split <;> simp
  have hp : 0 < N := by omega
  rw [ln_pos hp] at h
  have hlt := lg_lt hp
  split
  · have c := p2_pos (- -e).toNat
    refine ⟨Int.mul_nonneg hN (by omega), ?_⟩
    have : N * 2 ^ (- -e).toNat < 2 ^ (lg N + 1) * 2 ^ (- -e).toNat := Int.mul_lt_mul_of_pos_right hlt c
    rw [← p2_add] at this
    have := p2_le (show lg N + 1 + (- -e).toNat ≤ 40 by omega)
    rw [show (2 : Int) ^ 40 = 1099511627776 from rfl] at this
    omega
  · have c := p2_pos (-e).toNat
    refine ⟨Int.ediv_nonneg hN (by omega), ?_⟩
    have : N / 2 ^ (-e).toNat < 2 ^ 40 := by
      rw [Int.ediv_lt_iff_lt_mul c, ← p2_add]
      have := p2_le (show lg N + 1 ≤ 40 + (-e).toNat by omega)
      omega
    rw [show (2 : Int) ^ 40 = 1099511627776 from rfl] at this
    omega
def tointS (f mode a : Int) : Int × ExcT × Unit :=
  if nan f a || inff f a then (-2147483648, (true, false, false, false, false, ()), ())
  else if (if sg f a then -(unitsW mode (sg f a) (xp f a) (sig f a)).1 else (unitsW mode (sg f a) (xp f a) (sig f a)).1) = IntKind.wrap .i32 (if sg f a then -(unitsW mode (sg f a) (xp f a) (sig f a)).1 else (unitsW mode (sg f a) (xp f a) (sig f a)).1)
    then (IntKind.wrap .i32 (if sg f a then -(unitsW mode (sg f a) (xp f a) (sig f a)).1 else (unitsW mode (sg f a) (xp f a) (sig f a)).1), (false, false, false, false, (unitsW mode (sg f a) (xp f a) (sig f a)).2, ()), ())
  else (-2147483648, (true, false, false, false, false, ()), ())
theorem wunits_eq (mode : Int) (n : Bool) {e N : Int} (hN : w64 N) (he : -1000 ≤ e ∧ e ≤ 1000) : F_whole_units (n, e, N, false, ()) mode = some ((unitsW mode n e N).1, (unitsW mode n e N).2, ()) ∧ 0 ≤ (unitsW mode n e N).1 ∧ (unitsW mode n e N).1 ≤ 1099511627777 := by
  have hl := ln_bd (k := 64) hN.1 (by have : (2 : Int) ^ 64 = 18446744073709551616 := rfl; have := hN.2; omega)
  unfold F_whole_units unitsW
  dsimp only
  rw [len_eq hN]
  simp only [Option.bind_some, bif_dec]
  rw [wi64 (n := e + ln N) (by omega), wi64 (n := 0 - e) (by omega)]
  by_cases h : e + ln N > 40
  · rw [if_pos h, if_pos h]; exact ⟨rfl, by decide, by decide⟩
  · rw [if_neg h, if_neg h]
    have qb := toq_bd hN.1 h
    rw [show (0 : Int) - e = -e by omega, units_eq hN (by omega) (by omega) false]
    simp only [Option.bind_some]
    rw [up_eq mode n ⟨qb.1, by omega⟩ (halfS N (-e)) (restS N (-e) false) (leftS (halfS N (-e)) (restS N (-e) false)) rfl]
    simp only [Option.bind_some]
    rw [wu64 (n := qS N (-e) + 1) (by omega)]
    unfold fin1
    generalize upS mode n (decide (qS N (-e) % 2 = 1)) (halfS N (-e)) (restS N (-e) false) = b
    refine ⟨?_, ?_, ?_⟩
    · cases b <;> cases halfS N (-e) <;> cases restS N (-e) false <;> rfl
    · cases b <;> simp <;> omega
    · cases b <;> simp <;> omega
theorem toint_eq (f mode : Int) {a : Int} (ha : w32 a) : F_whole_ToInt f mode a = some (tointS f mode a) := by
  have xa := xp_bd f a
  have hw := wunits_eq mode (sg f a) (sig_w64 f a) (show -1000 ≤ xp f a ∧ xp f a ≤ 1000 by omega)
  have hf := ex_fin f a
  have ft : F_format_Finite f a = some (!(nan f a || inff f a)) := by
    unfold F_format_Finite
    rw [parts_eq f ha.1 ha.2, top_eq]
    simp only [Option.bind_some]
    congr 1
    rw [Bool.eq_iff_iff]
    simp only [decide_eq_true_eq, Bool.not_eq_true', Bool.or_eq_false_iff]
    rw [hf]
    unfold nan inff
    simp only [decide_eq_false_iff_not]
    omega
  unfold F_whole_ToInt tointS
  rw [ft, of_eq f ha]
  simp only [Option.bind_some]
  rw [hw.1]
  simp only [Option.bind_some]
  obtain ⟨h1, h2⟩ := hw.2
  generalize (unitsW mode (sg f a) (xp f a) (sig f a)).1 = q at *
  generalize (unitsW mode (sg f a) (xp f a) (sig f a)).2 = b at *
  rw [wi64 (n := q) (by omega), wi64 (n := 0 - q) (by omega)]
  have hx : (bif sg f a then 0 - q else q) = (if sg f a then -q else q) := by cases sg f a <;> simp
  rw [hx]
  have hb : -1099511627777 ≤ (if sg f a then -q else q) ∧ (if sg f a then -q else q) ≤ 1099511627777 := by split <;> omega
  generalize (if sg f a then -q else q) = r at *
  have hw32 : IntKind.i64.wrap (IntKind.i32.wrap r) = IntKind.i32.wrap r := by
    apply wi64
    simp only [IntKind.wrap, IntKind.bits, IntKind.signed]; simp
    split <;> omega
  rw [hw32, bif_eq]
  cases nan f a <;> cases inff f a <;> simp only [Bool.or_true, Bool.or_false, Bool.not_true, Bool.not_false, cond_true, cond_false, if_true, if_false, Bool.false_eq_true] <;> (try rfl)
  by_cases k : r = IntKind.i32.wrap r
  · rw [if_pos k, if_pos k]
  · rw [if_neg k, if_neg k]
end Go.Proofs.Ytkknnloamidaiaa.VI

namespace Go.Proofs.Ytkknnloamidaiaa.VI
set_option linter.unusedVariables false
set_option linter.unusedSimpArgs false
set_option maxRecDepth 100000
set_option linter.unusedSimpArgs false
set_option linter.unusedVariables false
noncomputable def O_anneallaw12_FuncsEdges : Orc := (orm c_anneallaw12_known (orm c_funcs_Exp (orm c_funcs_Log (orm c_funcs_Tanh (orm c_funcs_Sigmoid (orm c_funcs_Gelu (orm c_funcs_Slope c_funcs_Cospi)))))))
theorem okO_anneallaw12_FuncsEdges : OrcOk PR O_anneallaw12_FuncsEdges := (orm_ok ok_anneallaw12_known (orm_ok ok_funcs_Exp (orm_ok ok_funcs_Log (orm_ok ok_funcs_Tanh (orm_ok ok_funcs_Sigmoid (orm_ok ok_funcs_Gelu (orm_ok ok_funcs_Slope ok_funcs_Cospi)))))))
abbrev fa_anneallaw12_FuncsEdges : Fm := (.pair (.i .u32) (.pair .b .unit))
abbrev ha_anneallaw12_FuncsEdges : List BF := []
abbrev fr_anneallaw12_FuncsEdges : Fm := .b
abbrev hr_anneallaw12_FuncsEdges : List BF := []
noncomputable def L_anneallaw12_FuncsEdges : Lps := (lpB 9 (.un 8 [0, 5, 6, 16, 17, 18]) L0)
def inn_anneallaw12_FuncsEdges : T fr_anneallaw12_FuncsEdges → TH hr_anneallaw12_FuncsEdges → Bool := (fun z w => z)
def out_anneallaw12_FuncsEdges : Bool → T fr_anneallaw12_FuncsEdges × TH hr_anneallaw12_FuncsEdges := fun r => (r, ())
noncomputable def F_anneallaw12_FuncsEdges (a0 : Int) (a1 : Bool) : Option (Bool) :=
  let x0 : Int := (bif a1 then (2147483648:Int) else (0:Int))
  let x1 : Int := (bits .or .u32 (IntKind.wrap .u32 ((2139095041:Int) + (Int.tmod a0 (8388606:Int)))) x0)
  let x2 : Int := (IntKind.wrap .u32 ((1118925337:Int) + (Int.tmod a0 (50331648:Int))))
  let x3 : Int := (bits .or .u32 (1065353216:Int) x0)
  (F_anneallaw12_known).bind fun r4 =>
  bif (!r4) then
    (some false)
  else
    ((F_funcs_Exp x1)).bind fun r5 =>
    bif (r5 != (2143289344:Int)) then
      (some false)
    else
      ((F_funcs_Log x1)).bind fun r6 =>
      bif (r6 != (2143289344:Int)) then
        (some false)
      else
        ((F_funcs_Tanh x1)).bind fun r7 =>
        bif (r7 != (2143289344:Int)) then
          (some false)
        else
          ((F_funcs_Sigmoid x1)).bind fun r8 =>
          bif (r8 != (2143289344:Int)) then
            (some false)
          else
            ((F_funcs_Gelu x1)).bind fun r9 =>
            bif (r9 != (2143289344:Int)) then
              (some false)
            else
              ((F_funcs_Slope x1)).bind fun r10 =>
              bif (r10 != (2143289344:Int)) then
                (some false)
              else
                ((F_funcs_Cospi x1)).bind fun r11 =>
                bif (r11 != (2143289344:Int)) then
                  (some false)
                else
                  ((F_funcs_Exp x2)).bind fun r12 =>
                  bif (r12 == (2139095040:Int)) then
                    ((F_funcs_Exp (IntKind.wrap .u32 ((3268407734:Int) + (Int.tmod a0 (16777216:Int)))))).bind fun r13 =>
                    bif (r13 == (0:Int)) then
                      ((F_funcs_Log x0)).bind fun r14 =>
                      bif (r14 == (4286578688:Int)) then
                        ((F_funcs_Log (bits .or .u32 (2147483648:Int) (IntKind.wrap .u32 ((Int.tmod a0 (2139095040:Int)) + (1:Int)))))).bind fun r15 =>
                        bif (r15 == (2143289344:Int)) then
                          ((F_funcs_Tanh (bits .or .u32 (2139095040:Int) x0))).bind fun r16 =>
                          bif (r16 == x3) then
                            ((F_funcs_Tanh (bits .or .u32 x2 x0))).bind fun r17 =>
                            bif (r17 == x3) then
                              ((F_funcs_Tanh x0)).bind fun r18 =>
                              bif (r18 == x0) then
                                ((F_funcs_Sigmoid (2139095040:Int))).bind fun r19 =>
                                bif (r19 == (1065353216:Int)) then
                                  ((F_funcs_Sigmoid (4286578688:Int))).bind fun r20 =>
                                  (some (r20 == (0:Int)))
                                else
                                  (some false)
                              else
                                (some false)
                            else
                              (some false)
                          else
                            (some false)
                        else
                          (some false)
                      else
                        (some false)
                    else
                      (some false)
                  else
                    (some false)
noncomputable def G_anneallaw12_FuncsEdges : T fa_anneallaw12_FuncsEdges → TH ha_anneallaw12_FuncsEdges → Option (Bool) := fun x y => F_anneallaw12_FuncsEdges x.1 x.2.1
noncomputable def c_anneallaw12_FuncsEdges : Orc := ent i_anneallaw12_FuncsEdges [] 0 (sp fa_anneallaw12_FuncsEdges ha_anneallaw12_FuncsEdges fr_anneallaw12_FuncsEdges hr_anneallaw12_FuncsEdges G_anneallaw12_FuncsEdges out_anneallaw12_FuncsEdges)
theorem ok_anneallaw12_FuncsEdges : OrcOk PR c_anneallaw12_FuncsEdges := fnT okO_anneallaw12_FuncsEdges mixed p_anneallaw12_FuncsEdges (by kernel_rfl) (by kernel_rfl) (L := L_anneallaw12_FuncsEdges) (kp := false) (by kernel_rfl) (inn := inn_anneallaw12_FuncsEdges) (out := out_anneallaw12_FuncsEdges) (fun _ _ => rfl) (loopsL (l := []) (by kernel_rfl) trivial) (fun x y => by kernel_rfl)
noncomputable def O_anneallaw12_FuncsSigns : Orc := (orm c_anneallaw12_known (orm c_funcs_Tanh (orm c_funcs_Exp (orm c_funcs_Sigmoid c_annealref1_Class))))
theorem okO_anneallaw12_FuncsSigns : OrcOk PR O_anneallaw12_FuncsSigns := (orm_ok ok_anneallaw12_known (orm_ok ok_funcs_Tanh (orm_ok ok_funcs_Exp (orm_ok ok_funcs_Sigmoid ok_annealref1_Class))))
abbrev fa_anneallaw12_FuncsSigns : Fm := (.pair (.i .u32) .unit)
abbrev ha_anneallaw12_FuncsSigns : List BF := []
abbrev fr_anneallaw12_FuncsSigns : Fm := .b
abbrev hr_anneallaw12_FuncsSigns : List BF := []
noncomputable def L_anneallaw12_FuncsSigns : Lps := L0
def inn_anneallaw12_FuncsSigns : T fr_anneallaw12_FuncsSigns → TH hr_anneallaw12_FuncsSigns → Bool := (fun z w => z)
def out_anneallaw12_FuncsSigns : Bool → T fr_anneallaw12_FuncsSigns × TH hr_anneallaw12_FuncsSigns := fun r => (r, ())
noncomputable def F_anneallaw12_FuncsSigns (a0 : Int) : Option (Bool) :=
  let x0 : Int := (bits .andNot .u32 a0 (2147483648:Int))
  let x1 : Int := (bits .or .u32 x0 (2147483648:Int))
  (F_anneallaw12_known).bind fun r2 =>
  bif (!r2) then
    (some false)
  else
    bif (decide (x0 > (2139095040:Int))) then
      (some true)
    else
      ((F_funcs_Tanh x0)).bind fun r3 =>
      ((F_funcs_Tanh x1)).bind fun r4 =>
      ((F_funcs_Exp x1)).bind fun r5 =>
      ((F_funcs_Sigmoid (bits .and .u32 a0 (4294967295:Int)))).bind fun r6 =>
      bif (r4 == (bits .or .u32 r3 (2147483648:Int))) then
        bif (decide (r3 ≤ (1065353217:Int))) then
          bif (decide (r5 ≤ (1065353217:Int))) then
            bif (decide (r6 ≤ (1065353217:Int))) then
              ((F_annealref1_Class (2:Int) r3)).bind fun r7 =>
              (some (decide (r7 ≤ (2:Int))))
            else
              bif (decide (a0 > (2139095040:Int))) then
                bif (decide (a0 < (2147483648:Int))) then
                  ((F_annealref1_Class (2:Int) r3)).bind fun r8 =>
                  (some (decide (r8 ≤ (2:Int))))
                else
                  bif (decide (a0 > (4286578688:Int))) then
                    ((F_annealref1_Class (2:Int) r3)).bind fun r9 =>
                    (some (decide (r9 ≤ (2:Int))))
                  else
                    (some false)
              else
                bif (decide (a0 > (4286578688:Int))) then
                  ((F_annealref1_Class (2:Int) r3)).bind fun r10 =>
                  (some (decide (r10 ≤ (2:Int))))
                else
                  (some false)
          else
            (some false)
        else
          (some false)
      else
        (some false)
noncomputable def G_anneallaw12_FuncsSigns : T fa_anneallaw12_FuncsSigns → TH ha_anneallaw12_FuncsSigns → Option (Bool) := fun x y => F_anneallaw12_FuncsSigns x.1
noncomputable def c_anneallaw12_FuncsSigns : Orc := ent i_anneallaw12_FuncsSigns [] 0 (sp fa_anneallaw12_FuncsSigns ha_anneallaw12_FuncsSigns fr_anneallaw12_FuncsSigns hr_anneallaw12_FuncsSigns G_anneallaw12_FuncsSigns out_anneallaw12_FuncsSigns)
theorem ok_anneallaw12_FuncsSigns : OrcOk PR c_anneallaw12_FuncsSigns := fnT okO_anneallaw12_FuncsSigns mixed p_anneallaw12_FuncsSigns (by kernel_rfl) (by kernel_rfl) (L := L_anneallaw12_FuncsSigns) (kp := false) (by kernel_rfl) (inn := inn_anneallaw12_FuncsSigns) (out := out_anneallaw12_FuncsSigns) (fun _ _ => rfl) (loopsL (l := []) (by kernel_rfl) trivial) (fun x y => by kernel_rfl)
noncomputable def O_anneallaw12_FuncsPairs : Orc := (orm c_anneallaw12_known (orm c_annealseat_Mild (orm c_funcs_Log (orm c_funcs_Exp (orm c_annealref1_Key (orm c_annealref1_Finite c_annealref1_Less))))))
theorem okO_anneallaw12_FuncsPairs : OrcOk PR O_anneallaw12_FuncsPairs := (orm_ok ok_anneallaw12_known (orm_ok ok_annealseat_Mild (orm_ok ok_funcs_Log (orm_ok ok_funcs_Exp (orm_ok ok_annealref1_Key (orm_ok ok_annealref1_Finite ok_annealref1_Less))))))
abbrev fa_anneallaw12_FuncsPairs : Fm := (.pair (.i .u32) .unit)
abbrev ha_anneallaw12_FuncsPairs : List BF := []
abbrev fr_anneallaw12_FuncsPairs : Fm := .b
abbrev hr_anneallaw12_FuncsPairs : List BF := []
noncomputable def L_anneallaw12_FuncsPairs : Lps := L0
def inn_anneallaw12_FuncsPairs : T fr_anneallaw12_FuncsPairs → TH hr_anneallaw12_FuncsPairs → Bool := (fun z w => z)
def out_anneallaw12_FuncsPairs : Bool → T fr_anneallaw12_FuncsPairs × TH hr_anneallaw12_FuncsPairs := fun r => (r, ())
noncomputable def F_anneallaw12_FuncsPairs (a0 : Int) : Option (Bool) :=
  (F_anneallaw12_known).bind fun r0 =>
  bif (!r0) then
    (some false)
  else
    ((F_annealseat_Mild (2:Int) a0)).bind fun r1 =>
    let x2 : Int := (bits .andNot .u32 r1 (2147483648:Int))
    bif (x2 == (0:Int)) then
      ((F_funcs_Log x2)).bind fun r3 =>
      (some (r3 == (4286578688:Int)))
    else
      ((F_funcs_Log x2)).bind fun r4 =>
      ((F_funcs_Exp r4)).bind fun r5 =>
      ((F_annealref1_Key (2:Int) r5)).bind fun r6 =>
      ((F_annealref1_Key (2:Int) x2)).bind fun r7 =>
      bif (decide ((IntKind.wrap .i64 (r6 - r7)) > (-(64:Int)))) then
        bif (decide ((IntKind.wrap .i64 (r6 - r7)) < (64:Int))) then
          ((F_annealref1_Finite (2:Int) r4)).bind fun r8 =>
          bif r8 then
            ((F_annealref1_Less (2:Int) x2 (1065353216:Int))).bind fun r9 =>
            ((F_annealref1_Less (2:Int) r4 (0:Int))).bind fun r10 =>
            (some (r9 == r10))
          else
            (some false)
        else
          (some false)
      else
        (some false)
noncomputable def G_anneallaw12_FuncsPairs : T fa_anneallaw12_FuncsPairs → TH ha_anneallaw12_FuncsPairs → Option (Bool) := fun x y => F_anneallaw12_FuncsPairs x.1
noncomputable def c_anneallaw12_FuncsPairs : Orc := ent i_anneallaw12_FuncsPairs [] 0 (sp fa_anneallaw12_FuncsPairs ha_anneallaw12_FuncsPairs fr_anneallaw12_FuncsPairs hr_anneallaw12_FuncsPairs G_anneallaw12_FuncsPairs out_anneallaw12_FuncsPairs)
theorem ok_anneallaw12_FuncsPairs : OrcOk PR c_anneallaw12_FuncsPairs := fnT okO_anneallaw12_FuncsPairs mixed p_anneallaw12_FuncsPairs (by kernel_rfl) (by kernel_rfl) (L := L_anneallaw12_FuncsPairs) (kp := false) (by kernel_rfl) (inn := inn_anneallaw12_FuncsPairs) (out := out_anneallaw12_FuncsPairs) (fun _ _ => rfl) (loopsL (l := []) (by kernel_rfl) trivial) (fun x y => by kernel_rfl)
end Go.Proofs.Ytkknnloamidaiaa.VI

namespace Go.Proofs.Ytkknnloamidaiaa.VI
set_option linter.unusedVariables false
set_option linter.unusedSimpArgs false
set_option linter.unusedSimpArgs false
set_option linter.unusedVariables false
set_option maxRecDepth 100000
set_option maxHeartbeats 8000000
def divS (f mode a b : Int) : Int × ExcT × Unit :=
  if nan f a || nan f b then (NN f, (loud f a || loud f b, false, false, false, false, ()), ())
  else if (zr f a && zr f b) || (inff f a && inff f b) then (NN f, (true, false, false, false, false, ()), ())
  else if inff f a then (sgn f (!(sg f a == sg f b)) + IN f, EXC0, ())
  else if inff f b || zr f a then (sgn f (!(sg f a == sg f b)), EXC0, ())
  else if zr f b then (sgn f (!(sg f a == sg f b)) + IN f, (false, true, false, false, false, ()), ())
  else pk f mode (!(sg f a == sg f b)) (xp f a - (61 - lg (sig f a)) - xp f b) (sig f a * 2 ^ (61 - lg (sig f a)) / sig f b) (decide (sig f a * 2 ^ (61 - lg (sig f a)) % sig f b ≠ 0))
theorem div_eq (f mode : Int) {a b : Int} (ha : w32 a) (hb : w32 b) : F_quot_Div f mode a b = some (divS f mode a b) := by
  have xa := xp_bd f a
  have xb := xp_bd f b
  have sa := sig_bd f a
  have sb := sig_bd f b
  have fb := fmt_bd f
  have c61 : (2 : Int) ^ 62 = 4611686018427387904 := rfl
  have ka := kl_le f a
  have kb := kl_le f b
  have na : nan f a = decide (kl f a ≥ 4) := by unfold nan; exact decide_eq_decide.2 (kl_nan f a).symm
  have nb : nan f b = decide (kl f b ≥ 4) := by unfold nan; exact decide_eq_decide.2 (kl_nan f b).symm
  have za : zr f a = decide (kl f a = 0) := by unfold zr; exact decide_eq_decide.2 (kl_zero f a).symm
  have zb : zr f b = decide (kl f b = 0) := by unfold zr; exact decide_eq_decide.2 (kl_zero f b).symm
  have ia : inff f a = decide (kl f a = 3) := by unfold inff; exact decide_eq_decide.2 (kl_inf f a).symm
  have ib : inff f b = decide (kl f b = 3) := by unfold inff; exact decide_eq_decide.2 (kl_inf f b).symm
  -- the road of finite ones
  have road : sig f a ≠ 0 → sig f b ≠ 0 →
      ((F_sum_Of f a).bind fun r26 =>
        (F_sum_Of f b).bind fun r28 =>
        (F_bits_Len r26.2.2.1).bind fun r31 =>
        (F_bits_Shift r26.2.2.1 (IntKind.wrap .i64 ((0:Int) - (IntKind.wrap .i64 ((62:Int) - r31))))).bind fun r33 =>
        bif (r28.2.2.1 == (0:Int)) then none else
        bif (r28.2.2.1 == (0:Int)) then none else
        (F_round_Pack f mode (!(sg f a == sg f b)) (IntKind.wrap .i64 ((IntKind.wrap .i64 (r26.2.1 - (IntKind.wrap .i64 ((62:Int) - r31)))) - r28.2.1)) (IntKind.wrap .u64 (Int.tdiv r33.1 r28.2.2.1)) ((Int.tmod r33.1 r28.2.2.1) != (0:Int))).bind fun r34 =>
        (some r34)) = some (pk f mode (!(sg f a == sg f b)) (xp f a - (61 - lg (sig f a)) - xp f b) (sig f a * 2 ^ (61 - lg (sig f a)) / sig f b) (decide (sig f a * 2 ^ (61 - lg (sig f a)) % sig f b ≠ 0))) := by
    intro h1 h2
    have hp : 0 < sig f a := by omega
    have hq : 0 < sig f b := by omega
    have hl := lg_bd (k := 62) hp (by omega)
    have hlt := lg_lt hp
    have hle := lg_le hp
    have hb2 : sig f a * 2 ^ (61 - lg (sig f a)) < 2 ^ 62 := by
      have := Int.mul_lt_mul_of_pos_right hlt (p2_pos (61 - lg (sig f a)))
      rw [← p2_add, show lg (sig f a) + 1 + (61 - lg (sig f a)) = 62 by omega] at this
      exact this
    have hb0 : 0 ≤ sig f a * 2 ^ (61 - lg (sig f a)) := Int.mul_nonneg sa.1 (by have := p2_pos (61 - lg (sig f a)); omega)
    rw [of_eq f ha, of_eq f hb]
    simp only [Option.bind_some]
    rw [len_eq (sig_w64 f a), ln_pos hp]
    simp only [Option.bind_some]
    rw [wi64 (n := 62 - ((lg (sig f a) : Int) + 1)) (by omega), wi64 (n := 0 - (62 - ((lg (sig f a) : Int) + 1))) (by omega)]
    have hs : F_bits_Shift (sig f a) (0 - (62 - ((lg (sig f a) : Int) + 1))) = some (sig f a * 2 ^ (61 - lg (sig f a)), false, ()) := by
      by_cases h0 : lg (sig f a) = 61
      · rw [h0, show 0 - (62 - (((61 : Nat) : Int) + 1)) = 0 by omega, shr_eq (sig_w64 f a) (by omega)]; simp
      · have := shl_eq (sig_w64 f a) (n := 61 - (lg (sig f a) : Int)) (by omega) (by
          rw [show (61 - (lg (sig f a) : Int)).toNat = 61 - lg (sig f a) by omega]; omega)
        rw [show 0 - (62 - ((lg (sig f a) : Int) + 1)) = -(61 - (lg (sig f a) : Int)) by omega, this]
        rw [show (61 - (lg (sig f a) : Int)).toNat = 61 - lg (sig f a) by omega]
    rw [hs]
    simp only [Option.bind_some]
    have hz : (sig f b == 0) = false := beq_false_of_ne h2
    rw [hz]
    simp only [cond_false]
    rw [tdiv_nn hb0, tmod_nn hb0]
    have hd0 : 0 ≤ sig f a * 2 ^ (61 - lg (sig f a)) / sig f b := Int.ediv_nonneg hb0 (by omega)
    have hd1 : sig f a * 2 ^ (61 - lg (sig f a)) / sig f b ≤ sig f a * 2 ^ (61 - lg (sig f a)) := Int.ediv_le_self _ hb0
    rw [wu64 (n := sig f a * 2 ^ (61 - lg (sig f a)) / sig f b) (by omega), wi64 (n := xp f a - (62 - ((lg (sig f a) : Int) + 1))) (by omega), wi64 (by omega)]
    rw [pack_eq f mode _ _ (show w64 (sig f a * 2 ^ (61 - lg (sig f a)) / sig f b) from ⟨hd0, by omega⟩)]
    simp only [Option.bind_some]
    rw [show min (max (xp f a - (62 - ((lg (sig f a) : Int) + 1)) - xp f b) (-10000)) 10000 = xp f a - (61 - lg (sig f a)) - xp f b by omega]
    have : (sig f a * 2 ^ (61 - lg (sig f a)) % sig f b != 0) = decide (sig f a * 2 ^ (61 - lg (sig f a)) % sig f b ≠ 0) := by rw [Bool.eq_iff_iff]; simp
    rw [this]
  unfold F_quot_Div F_sum_Bad divS
  rw [snans_eq f [a, b] (by simp) (by simpa using ⟨ha, hb⟩), neg_eq f ha, neg_eq f hb, class_eq f ha.1 ha.2, class_eq f hb.1 hb.2, nan_w]
  simp only [Option.bind_some, List.any_cons, List.any_nil, Bool.or_false, inf_eq, zero_eq]
  have hsa : nan f a = false → inff f a = false → zr f a = false → sig f a ≠ 0 := fun h1 h2 h3 k => by rw [(sig_zero f a h1 h2).1 k] at h3; cases h3
  have hsb : nan f b = false → inff f b = false → zr f b = false → sig f b ≠ 0 := fun h1 h2 h3 k => by rw [(sig_zero f b h1 h2).1 k] at h3; cases h3
  rw [na, nb] at *
  rw [za, zb, ia, ib] at *
  generalize pk f mode _ _ _ _ = W at *
  generalize loud f a = la at *
  generalize loud f b = lb at *
  rcases (show kl f a = 0 ∨ kl f a = 1 ∨ kl f a = 2 ∨ kl f a = 3 ∨ kl f a ≥ 4 by omega) with p | p | p | p | p <;>
  rcases (show kl f b = 0 ∨ kl f b = 1 ∨ kl f b = 2 ∨ kl f b = 3 ∨ kl f b ≥ 4 by omega) with q | q | q | q | q
  all_goals (first | (have p' : decide (kl f a ≥ 4) = true := decide_eq_true p) | (have p' : decide (kl f a ≥ 4) = false := decide_eq_false (by omega)))
  all_goals (first | (have q' : decide (kl f b ≥ 4) = true := decide_eq_true q) | (have q' : decide (kl f b ≥ 4) = false := decide_eq_false (by omega)))
  all_goals rw [p', q']
  all_goals (try (have r1 := road (hsa (by rw [p']) (by rw [p]; rfl) (by rw [p]; rfl)) (hsb (by rw [q']) (by rw [q]; rfl) (by rw [q]; rfl))))
  all_goals clear road hsa hsb na nb za zb ia ib ka kb xa xb
  all_goals (first
    | (rw [Bool.true_or]; rfl)
    | (rw [Bool.or_true]; rfl)
    | (rw [p, q]; rfl)
    | (rw [p, q]; exact r1)
    | skip)
end Go.Proofs.Ytkknnloamidaiaa.VI

namespace Go.Proofs.Ytkknnloamidaiaa.VI
set_option linter.unusedVariables false
set_option linter.unusedSimpArgs false
set_option maxRecDepth 100000
set_option linter.unusedSimpArgs false
set_option linter.unusedVariables false
noncomputable def O_tensor_known : Orc := orn
theorem okO_tensor_known : OrcOk PR O_tensor_known := (orn_ok _)
abbrev fa_tensor_known : Fm := (.pair (.i .i64) .unit)
abbrev ha_tensor_known : List BF := []
abbrev fr_tensor_known : Fm := .b
abbrev hr_tensor_known : List BF := []
noncomputable def L_tensor_known : Lps := L0
def inn_tensor_known : T fr_tensor_known → TH hr_tensor_known → Bool := (fun z w => z)
def out_tensor_known : Bool → T fr_tensor_known × TH hr_tensor_known := fun r => (r, ())
noncomputable def F_tensor_known (a0 : Int) : Option (Bool) :=
  bif (a0 == (0:Int)) then
    (some true)
  else
    bif (a0 == (1:Int)) then
      (some true)
    else
      (some (a0 == (2:Int)))
noncomputable def G_tensor_known : T fa_tensor_known → TH ha_tensor_known → Option (Bool) := fun x y => F_tensor_known x.1
noncomputable def c_tensor_known : Orc := ent i_tensor_known [] 0 (sp fa_tensor_known ha_tensor_known fr_tensor_known hr_tensor_known G_tensor_known out_tensor_known)
theorem ok_tensor_known : OrcOk PR c_tensor_known := fnT okO_tensor_known mixed p_tensor_known (by kernel_rfl) (by kernel_rfl) (L := L_tensor_known) (kp := false) (by kernel_rfl) (inn := inn_tensor_known) (out := out_tensor_known) (fun _ _ => rfl) (loopsL (l := []) (by kernel_rfl) trivial) (fun x y => by kernel_rfl)
noncomputable def O_tensor_Rightc1 : Orc := c_format_Mask
theorem okO_tensor_Rightc1 : OrcOk PR O_tensor_Rightc1 := ok_format_Mask
abbrev fa_tensor_Rightc1 : Fm := (.pair (.i .u32) (.cst (.ref 0 1 0) .unit))
abbrev ha_tensor_Rightc1 : List BF := [(.list 1 y_api_Tensor true (.pair (.i .i64) (.pair (.i .i64) (.pair (.i .i64) (.pair (.si .u32) .unit)))))]
abbrev fr_tensor_Rightc1 : Fm := .b
abbrev hr_tensor_Rightc1 : List BF := [(.list 1 y_api_Tensor true (.pair (.i .i64) (.pair (.i .i64) (.pair (.i .i64) (.pair (.si .u32) .unit)))))]
noncomputable def L_tensor_Rightc1 : Lps := L0
def inn_tensor_Rightc1 : T fr_tensor_Rightc1 → TH hr_tensor_Rightc1 → (Bool) × ((Int × Int × Int × List Int × Unit) × Unit) := Prod.mk
def out_tensor_Rightc1 : (Bool) × ((Int × Int × Int × List Int × Unit) × Unit) → T fr_tensor_Rightc1 × TH hr_tensor_Rightc1 := id
noncomputable def F_tensor_Rightc1 (a0 : Int) (a1 : Int × Int × Int × List Int × Unit) : Option ((Bool) × ((Int × Int × Int × List Int × Unit) × Unit)) :=
  let x0 : Int := a1.2.2.1
  let x1 : List Int := a1.2.2.2.1
  ((F_format_Mask x0)).bind fun r2 =>
  (some (((bits .andNot .u32 a0 r2) != (0:Int)), ((a1.1, (a1.2.1, (x0, ((List.take (List.length x1) x1), ())))), ())))
noncomputable def G_tensor_Rightc1 : T fa_tensor_Rightc1 → TH ha_tensor_Rightc1 → Option ((Bool) × ((Int × Int × Int × List Int × Unit) × Unit)) := fun x y => F_tensor_Rightc1 x.1 y.1
noncomputable def c_tensor_Rightc1 : Orc := ent i_tensor_Rightc1 [false, true] 0 (sp fa_tensor_Rightc1 ha_tensor_Rightc1 fr_tensor_Rightc1 hr_tensor_Rightc1 G_tensor_Rightc1 out_tensor_Rightc1)
theorem ok_tensor_Rightc1 : OrcOk PR c_tensor_Rightc1 := fnT okO_tensor_Rightc1 mixed p_tensor_Rightc1 (by kernel_rfl) (by kernel_rfl) (L := L_tensor_Rightc1) (kp := false) (by kernel_rfl) (inn := inn_tensor_Rightc1) (out := out_tensor_Rightc1) (fun _ _ => rfl) (loopsL (l := []) (by kernel_rfl) trivial) (fun x y => by kernel_rfl)
noncomputable def O_slices_IndexFuncLLJuint32_uint32J__tensor_Rightc1 : Orc := c_tensor_Rightc1
theorem okO_slices_IndexFuncLLJuint32_uint32J__tensor_Rightc1 : OrcOk PR O_slices_IndexFuncLLJuint32_uint32J__tensor_Rightc1 := ok_tensor_Rightc1
abbrev fa_slices_IndexFuncLLJuint32_uint32J__tensor_Rightc1 : Fm := (.pair (.si .u32) (.pair (.fn i_tensor_Rightc1 (.pair (.ref 0 1 0) .unit)) .unit))
abbrev ha_slices_IndexFuncLLJuint32_uint32J__tensor_Rightc1 : List BF := [(.list 1 y_api_Tensor true (.pair (.i .i64) (.pair (.i .i64) (.pair (.i .i64) (.pair (.si .u32) .unit)))))]
abbrev fr_slices_IndexFuncLLJuint32_uint32J__tensor_Rightc1 : Fm := (.i .i64)
abbrev hr_slices_IndexFuncLLJuint32_uint32J__tensor_Rightc1 : List BF := [(.list 1 y_api_Tensor true (.pair (.i .i64) (.pair (.i .i64) (.pair (.i .i64) (.pair (.si .u32) .unit)))))]
abbrev ff_slices_IndexFuncLLJuint32_uint32J__tensor_Rightc1_0 : Fm := (.pair (.si .u32) (.cst (.fn i_tensor_Rightc1 (.cst (.ref 0 1 0) .unit)) (.us 5 (.pair (.i .i64) (.pair (.i .i64) (.us 10 .unit))))))
abbrev hf_slices_IndexFuncLLJuint32_uint32J__tensor_Rightc1_0 : List BF := [(.list 1 y_api_Tensor true (.pair (.i .i64) (.pair (.i .i64) (.pair (.i .i64) (.pair (.si .u32) .unit)))))]
abbrev X_slices_IndexFuncLLJuint32_uint32J__tensor_Rightc1_0 : Xs := (.alt (.exit 0) [] (.us 19 .unit) [(.list 1 y_api_Tensor true (.pair (.i .i64) (.pair (.i .i64) (.pair (.i .i64) (.pair (.si .u32) .unit)))))] (.one .ret [4] (.us 4 (.pair (.i .i64) (.us 14 .unit))) [(.list 1 y_api_Tensor true (.pair (.i .i64) (.pair (.i .i64) (.pair (.i .i64) (.pair (.si .u32) .unit)))))]))
abbrev S_slices_IndexFuncLLJuint32_uint32J__tensor_Rightc1_0 : Type := T ff_slices_IndexFuncLLJuint32_uint32J__tensor_Rightc1_0 × TH hf_slices_IndexFuncLLJuint32_uint32J__tensor_Rightc1_0
abbrev E_slices_IndexFuncLLJuint32_uint32J__tensor_Rightc1_0 : Type := TX X_slices_IndexFuncLLJuint32_uint32J__tensor_Rightc1_0
noncomputable def LB_slices_IndexFuncLLJuint32_uint32J__tensor_Rightc1_0 : Lps := L0
noncomputable def st_slices_IndexFuncLLJuint32_uint32J__tensor_Rightc1_0 : StepT S_slices_IndexFuncLLJuint32_uint32J__tensor_Rightc1_0 E_slices_IndexFuncLLJuint32_uint32J__tensor_Rightc1_0 := fun R v kn ko =>
  let x0 : List Int := v.1.1
  let x1 : Int := v.1.2.2.1
  let x2 : List Int := v.2.1.2.2.2.1
  bif (decide (x1 < v.1.2.1)) then
    bif (decide (((0:Int) ≤ x1) ∧ (x1 < (((List.length x0) : Nat) : Int)))) then
      ((F_tensor_Rightc1 (List.getD x0 (Int.toNat x1) (0:Int)) (v.2.1.1, (v.2.1.2.1, (v.2.1.2.2.1, ((List.take (List.length x2) x2), ())))))).bind fun r3 =>
      let x4 : List Int := r3.2.1.2.2.2.1
      bif r3.1 then
        (ko (Sum.inr (v.1.2.2, ((r3.2.1.1, (r3.2.1.2.1, (r3.2.1.2.2.1, ((List.take (List.length x4) x4), ())))), ()))))
      else
        (kn (((List.take (List.length x0) x0), (v.1.2.1, ((IntKind.wrap .i64 (x1 + (1:Int))), ()))), ((r3.2.1.1, (r3.2.1.2.1, (r3.2.1.2.2.1, ((List.take (List.length x4) x4), ())))), ())))
    else
      none
  else
    (ko (Sum.inl ((), ((v.2.1.1, (v.2.1.2.1, (v.2.1.2.2.1, ((List.take (List.length x2) x2), ())))), ()))))
noncomputable def ls_slices_IndexFuncLLJuint32_uint32J__tensor_Rightc1_0 : St → LTr := (lsum ff_slices_IndexFuncLLJuint32_uint32J__tensor_Rightc1_0 hf_slices_IndexFuncLLJuint32_uint32J__tensor_Rightc1_0 X_slices_IndexFuncLLJuint32_uint32J__tensor_Rightc1_0 Prod.mk id st_slices_IndexFuncLLJuint32_uint32J__tensor_Rightc1_0 (hd [] [] [0, 1, 7, 8] 1))
theorem lp_slices_IndexFuncLLJuint32_uint32J__tensor_Rightc1_0 : LoopOk PR 1 (lpN f_slices_IndexFuncLLJuint32_uint32J 0) ls_slices_IndexFuncLLJuint32_uint32J__tensor_Rightc1_0 := loopT okO_slices_IndexFuncLLJuint32_uint32J__tensor_Rightc1 mixed (L := LB_slices_IndexFuncLLJuint32_uint32J__tensor_Rightc1_0) (d := 1) (bs := []) (ks := [0, 1, 7, 8]) (loopsL (l := []) (by kernel_rfl) trivial) (by kernel_rfl) (inS := Prod.mk) (outS := id) (fun _ _ => rfl) (inX := id) (outX := id) (fun _ => rfl) (fun v R kn ko => by kernel_rfl) (hd_wk [] [] [0, 1, 7, 8] 1)
noncomputable def L_slices_IndexFuncLLJuint32_uint32J__tensor_Rightc1 : Lps := (lpB 3 (.by_ ls_slices_IndexFuncLLJuint32_uint32J__tensor_Rightc1_0) L0)
def inn_slices_IndexFuncLLJuint32_uint32J__tensor_Rightc1 : T fr_slices_IndexFuncLLJuint32_uint32J__tensor_Rightc1 → TH hr_slices_IndexFuncLLJuint32_uint32J__tensor_Rightc1 → (Int) × ((Int × Int × Int × List Int × Unit) × Unit) := Prod.mk
def out_slices_IndexFuncLLJuint32_uint32J__tensor_Rightc1 : (Int) × ((Int × Int × Int × List Int × Unit) × Unit) → T fr_slices_IndexFuncLLJuint32_uint32J__tensor_Rightc1 × TH hr_slices_IndexFuncLLJuint32_uint32J__tensor_Rightc1 := id
noncomputable def F_slices_IndexFuncLLJuint32_uint32J__tensor_Rightc1 (a0 : List Int) (a1 : Int × Int × Int × List Int × Unit) : Option ((Int) × ((Int × Int × Int × List Int × Unit) × Unit)) :=
  let x0 : Int := a1.2.2.1
  let x1 : List Int := a1.2.2.2.1
  ((lim st_slices_IndexFuncLLJuint32_uint32J__tensor_Rightc1_0 (((List.take (List.length a0) a0), ((((List.length a0) : Nat) : Int), ((0:Int), ()))), ((a1.1, (a1.2.1, (x0, ((List.take (List.length x1) x1), ())))), ())))).bind fun r2 =>
  els (fun l3 =>
    let x5 : Int := l3.2.1.1
    let x6 : Int := l3.2.1.2.1
    let x7 : Int := l3.2.1.2.2.1
    let x8 : List Int := l3.2.1.2.2.2.1
    (some ((-(1:Int)), ((x5, (x6, (x7, ((List.take (List.length x8) x8), ())))), ())))) (fun r4 =>
    let x9 : Int := r4.2.1.1
    let x10 : Int := r4.2.1.2.1
    let x11 : Int := r4.2.1.2.2.1
    let x12 : List Int := r4.2.1.2.2.2.1
    (some (r4.1.1, ((x9, (x10, (x11, ((List.take (List.length x12) x12), ())))), ())))) r2
noncomputable def G_slices_IndexFuncLLJuint32_uint32J__tensor_Rightc1 : T fa_slices_IndexFuncLLJuint32_uint32J__tensor_Rightc1 → TH ha_slices_IndexFuncLLJuint32_uint32J__tensor_Rightc1 → Option ((Int) × ((Int × Int × Int × List Int × Unit) × Unit)) := fun x y => F_slices_IndexFuncLLJuint32_uint32J__tensor_Rightc1 x.1 y.1
noncomputable def c_slices_IndexFuncLLJuint32_uint32J__tensor_Rightc1 : Orc := ent i_slices_IndexFuncLLJuint32_uint32J [false, true] 0 (sp fa_slices_IndexFuncLLJuint32_uint32J__tensor_Rightc1 ha_slices_IndexFuncLLJuint32_uint32J__tensor_Rightc1 fr_slices_IndexFuncLLJuint32_uint32J__tensor_Rightc1 hr_slices_IndexFuncLLJuint32_uint32J__tensor_Rightc1 G_slices_IndexFuncLLJuint32_uint32J__tensor_Rightc1 out_slices_IndexFuncLLJuint32_uint32J__tensor_Rightc1)
theorem ok_slices_IndexFuncLLJuint32_uint32J__tensor_Rightc1 : OrcOk PR c_slices_IndexFuncLLJuint32_uint32J__tensor_Rightc1 := fnT okO_slices_IndexFuncLLJuint32_uint32J__tensor_Rightc1 mixed p_slices_IndexFuncLLJuint32_uint32J (by kernel_rfl) (by kernel_rfl) (L := L_slices_IndexFuncLLJuint32_uint32J__tensor_Rightc1) (kp := false) (by kernel_rfl) (inn := inn_slices_IndexFuncLLJuint32_uint32J__tensor_Rightc1) (out := out_slices_IndexFuncLLJuint32_uint32J__tensor_Rightc1) (fun _ _ => rfl) (loopsL (l := [((lpN f_slices_IndexFuncLLJuint32_uint32J 0), ls_slices_IndexFuncLLJuint32_uint32J__tensor_Rightc1_0)]) (by kernel_rfl) ⟨lp_slices_IndexFuncLLJuint32_uint32J__tensor_Rightc1_0, trivial⟩) (fun x y => by kernel_rfl)
noncomputable def O_slices_ContainsFuncLLJuint32_uint32J__tensor_Rightc1 : Orc := c_slices_IndexFuncLLJuint32_uint32J__tensor_Rightc1
theorem okO_slices_ContainsFuncLLJuint32_uint32J__tensor_Rightc1 : OrcOk PR O_slices_ContainsFuncLLJuint32_uint32J__tensor_Rightc1 := ok_slices_IndexFuncLLJuint32_uint32J__tensor_Rightc1
abbrev fa_slices_ContainsFuncLLJuint32_uint32J__tensor_Rightc1 : Fm := (.pair (.si .u32) (.pair (.fn i_tensor_Rightc1 (.pair (.ref 0 1 0) .unit)) .unit))
abbrev ha_slices_ContainsFuncLLJuint32_uint32J__tensor_Rightc1 : List BF := [(.list 1 y_api_Tensor true (.pair (.i .i64) (.pair (.i .i64) (.pair (.i .i64) (.pair (.si .u32) .unit)))))]
abbrev fr_slices_ContainsFuncLLJuint32_uint32J__tensor_Rightc1 : Fm := .b
abbrev hr_slices_ContainsFuncLLJuint32_uint32J__tensor_Rightc1 : List BF := [(.list 1 y_api_Tensor true (.pair (.i .i64) (.pair (.i .i64) (.pair (.i .i64) (.pair (.si .u32) .unit)))))]
noncomputable def L_slices_ContainsFuncLLJuint32_uint32J__tensor_Rightc1 : Lps := L0
def inn_slices_ContainsFuncLLJuint32_uint32J__tensor_Rightc1 : T fr_slices_ContainsFuncLLJuint32_uint32J__tensor_Rightc1 → TH hr_slices_ContainsFuncLLJuint32_uint32J__tensor_Rightc1 → (Bool) × ((Int × Int × Int × List Int × Unit) × Unit) := Prod.mk
def out_slices_ContainsFuncLLJuint32_uint32J__tensor_Rightc1 : (Bool) × ((Int × Int × Int × List Int × Unit) × Unit) → T fr_slices_ContainsFuncLLJuint32_uint32J__tensor_Rightc1 × TH hr_slices_ContainsFuncLLJuint32_uint32J__tensor_Rightc1 := id
noncomputable def F_slices_ContainsFuncLLJuint32_uint32J__tensor_Rightc1 (a0 : List Int) (a1 : Int × Int × Int × List Int × Unit) : Option ((Bool) × ((Int × Int × Int × List Int × Unit) × Unit)) :=
  let x0 : Int := a1.2.2.1
  let x1 : List Int := a1.2.2.2.1
  ((F_slices_IndexFuncLLJuint32_uint32J__tensor_Rightc1 (List.take (List.length a0) a0) (a1.1, (a1.2.1, (x0, ((List.take (List.length x1) x1), ())))))).bind fun r2 =>
  let x3 : List Int := r2.2.1.2.2.2.1
  (some ((decide (r2.1 ≥ (0:Int))), ((r2.2.1.1, (r2.2.1.2.1, (r2.2.1.2.2.1, ((List.take (List.length x3) x3), ())))), ())))
noncomputable def G_slices_ContainsFuncLLJuint32_uint32J__tensor_Rightc1 : T fa_slices_ContainsFuncLLJuint32_uint32J__tensor_Rightc1 → TH ha_slices_ContainsFuncLLJuint32_uint32J__tensor_Rightc1 → Option ((Bool) × ((Int × Int × Int × List Int × Unit) × Unit)) := fun x y => F_slices_ContainsFuncLLJuint32_uint32J__tensor_Rightc1 x.1 y.1
noncomputable def c_slices_ContainsFuncLLJuint32_uint32J__tensor_Rightc1 : Orc := ent i_slices_ContainsFuncLLJuint32_uint32J [false, true] 0 (sp fa_slices_ContainsFuncLLJuint32_uint32J__tensor_Rightc1 ha_slices_ContainsFuncLLJuint32_uint32J__tensor_Rightc1 fr_slices_ContainsFuncLLJuint32_uint32J__tensor_Rightc1 hr_slices_ContainsFuncLLJuint32_uint32J__tensor_Rightc1 G_slices_ContainsFuncLLJuint32_uint32J__tensor_Rightc1 out_slices_ContainsFuncLLJuint32_uint32J__tensor_Rightc1)
theorem ok_slices_ContainsFuncLLJuint32_uint32J__tensor_Rightc1 : OrcOk PR c_slices_ContainsFuncLLJuint32_uint32J__tensor_Rightc1 := fnT okO_slices_ContainsFuncLLJuint32_uint32J__tensor_Rightc1 mixed p_slices_ContainsFuncLLJuint32_uint32J (by kernel_rfl) (by kernel_rfl) (L := L_slices_ContainsFuncLLJuint32_uint32J__tensor_Rightc1) (kp := false) (by kernel_rfl) (inn := inn_slices_ContainsFuncLLJuint32_uint32J__tensor_Rightc1) (out := out_slices_ContainsFuncLLJuint32_uint32J__tensor_Rightc1) (fun _ _ => rfl) (loopsL (l := []) (by kernel_rfl) trivial) (fun x y => by kernel_rfl)
noncomputable def O_tensor_Right : Orc := (orm c_tensor_known (orm c_slices_ContainsFuncLLJuint32_uint32J__tensor_Rightc1 c_tensor_Rightc1))
theorem okO_tensor_Right : OrcOk PR O_tensor_Right := (orm_ok ok_tensor_known (orm_ok ok_slices_ContainsFuncLLJuint32_uint32J__tensor_Rightc1 ok_tensor_Rightc1))
abbrev fa_tensor_Right : Fm := (.pair (.agg (.pair (.i .i64) (.pair (.i .i64) (.pair (.i .i64) (.pair (.si .u32) .unit))))) .unit)
abbrev ha_tensor_Right : List BF := []
abbrev fr_tensor_Right : Fm := .b
abbrev hr_tensor_Right : List BF := []
noncomputable def L_tensor_Right : Lps := L0
def inn_tensor_Right : T fr_tensor_Right → TH hr_tensor_Right → Bool := (fun z w => z)
def out_tensor_Right : Bool → T fr_tensor_Right × TH hr_tensor_Right := fun r => (r, ())
noncomputable def F_tensor_Right (a0 : Int × Int × Int × List Int × Unit) : Option (Bool) :=
  let x0 : Int := a0.2.2.1
  let x1 : List Int := a0.2.2.2.1
  let x2 : Nat := (List.length x1)
  let x3 : List Int := (List.take x2 x1)
  bif (decide (a0.1 < (0:Int))) then
    (some false)
  else
    bif (decide (a0.1 > (4096:Int))) then
      (some false)
    else
      bif (decide (a0.2.1 < (0:Int))) then
        (some false)
      else
        bif (decide (a0.2.1 > (4096:Int))) then
          (some false)
        else
          ((F_tensor_known x0)).bind fun r4 =>
          bif (!r4) then
            (some false)
          else
            bif (((x2 : Nat) : Int) != (IntKind.wrap .i64 (a0.1 * a0.2.1))) then
              (some false)
            else
              ((F_slices_ContainsFuncLLJuint32_uint32J__tensor_Rightc1 x3 (a0.1, (a0.2.1, (x0, (x3, ())))))).bind fun r5 =>
              (some (!r5.1))
noncomputable def G_tensor_Right : T fa_tensor_Right → TH ha_tensor_Right → Option (Bool) := fun x y => F_tensor_Right x.1
noncomputable def c_tensor_Right : Orc := ent i_tensor_Right [] 0 (sp fa_tensor_Right ha_tensor_Right fr_tensor_Right hr_tensor_Right G_tensor_Right out_tensor_Right)
theorem ok_tensor_Right : OrcOk PR c_tensor_Right := fnT okO_tensor_Right mixed p_tensor_Right (by kernel_rfl) (by kernel_rfl) (L := L_tensor_Right) (kp := false) (by kernel_rfl) (inn := inn_tensor_Right) (out := out_tensor_Right) (fun _ _ => rfl) (loopsL (l := []) (by kernel_rfl) trivial) (fun x y => by kernel_rfl)
noncomputable def O_kern_Widec1 : Orc := c_conv_Widen
theorem okO_kern_Widec1 : OrcOk PR O_kern_Widec1 := ok_conv_Widen
abbrev fa_kern_Widec1 : Fm := (.pair (.i .i64) (.pair (.i .u32) (.cst (.ref 0 1 0) .unit)))
abbrev ha_kern_Widec1 : List BF := [(.list 1 y_api_Tensor true (.pair (.i .i64) (.pair (.i .i64) (.pair (.i .i64) (.pair (.si .u32) .unit)))))]
abbrev fr_kern_Widec1 : Fm := (.i .u32)
abbrev hr_kern_Widec1 : List BF := [(.list 1 y_api_Tensor true (.pair (.i .i64) (.pair (.i .i64) (.pair (.i .i64) (.pair (.si .u32) .unit)))))]
noncomputable def L_kern_Widec1 : Lps := L0
def inn_kern_Widec1 : T fr_kern_Widec1 → TH hr_kern_Widec1 → (Int) × ((Int × Int × Int × List Int × Unit) × Unit) := Prod.mk
def out_kern_Widec1 : (Int) × ((Int × Int × Int × List Int × Unit) × Unit) → T fr_kern_Widec1 × TH hr_kern_Widec1 := id
noncomputable def F_kern_Widec1 (a0 : Int) (a1 : Int) (a2 : Int × Int × Int × List Int × Unit) : Option ((Int) × ((Int × Int × Int × List Int × Unit) × Unit)) :=
  let x0 : Int := a2.2.2.1
  let x1 : List Int := a2.2.2.2.1
  ((F_conv_Widen x0 a1)).bind fun r2 =>
  (some (r2, ((a2.1, (a2.2.1, (x0, ((List.take (List.length x1) x1), ())))), ())))
noncomputable def G_kern_Widec1 : T fa_kern_Widec1 → TH ha_kern_Widec1 → Option ((Int) × ((Int × Int × Int × List Int × Unit) × Unit)) := fun x y => F_kern_Widec1 x.1 x.2.1 y.1
noncomputable def c_kern_Widec1 : Orc := ent i_kern_Widec1 [false, false, true] 0 (sp fa_kern_Widec1 ha_kern_Widec1 fr_kern_Widec1 hr_kern_Widec1 G_kern_Widec1 out_kern_Widec1)
theorem ok_kern_Widec1 : OrcOk PR c_kern_Widec1 := fnT okO_kern_Widec1 mixed p_kern_Widec1 (by kernel_rfl) (by kernel_rfl) (L := L_kern_Widec1) (kp := false) (by kernel_rfl) (inn := inn_kern_Widec1) (out := out_kern_Widec1) (fun _ _ => rfl) (loopsL (l := []) (by kernel_rfl) trivial) (fun x y => by kernel_rfl)
noncomputable def O_tensor_Each__kern_Widec1 : Orc := c_kern_Widec1
theorem okO_tensor_Each__kern_Widec1 : OrcOk PR O_tensor_Each__kern_Widec1 := ok_kern_Widec1
abbrev fa_tensor_Each__kern_Widec1 : Fm := (.pair (.agg (.pair (.i .i64) (.pair (.i .i64) (.pair (.i .i64) (.pair (.si .u32) .unit))))) (.pair (.i .i64) (.pair (.fn i_kern_Widec1 (.pair (.ref 0 1 0) .unit)) .unit)))
abbrev ha_tensor_Each__kern_Widec1 : List BF := [(.list 1 y_api_Tensor true (.pair (.i .i64) (.pair (.i .i64) (.pair (.i .i64) (.pair (.si .u32) .unit)))))]
abbrev fr_tensor_Each__kern_Widec1 : Fm := (.agg (.pair (.i .i64) (.pair (.i .i64) (.pair (.i .i64) (.pair (.si .u32) .unit)))))
abbrev hr_tensor_Each__kern_Widec1 : List BF := [(.list 1 y_api_Tensor true (.pair (.i .i64) (.pair (.i .i64) (.pair (.i .i64) (.pair (.si .u32) .unit)))))]
abbrev ff_tensor_Each__kern_Widec1_0 : Fm := (.us 2 (.cst (.fn i_kern_Widec1 (.cst (.ref 0 1 0) .unit)) (.us 3 (.cst (.ref 1 1 0) (.cst (.ref 2 1 0) (.us 13 (.pair (.si .u32) (.pair (.i .i64) (.pair (.i .i64) (.us 14 .unit))))))))))
abbrev hf_tensor_Each__kern_Widec1_0 : List BF := [(.list 1 y_api_Tensor true (.pair (.i .i64) (.pair (.i .i64) (.pair (.i .i64) (.pair (.si .u32) .unit))))), (.list 1 y_api_Tensor true (.pair (.i .i64) (.pair (.i .i64) (.pair (.i .i64) (.cst .nils .unit))))), (.list 1 y_api_Tensor true (.pair (.i .i64) (.pair (.i .i64) (.pair (.i .i64) (.pair (.own 3 1 0 1) .unit))))), (.ints 1 y_uint32 true .u32)]
abbrev X_tensor_Each__kern_Widec1_0 : Xs := (.one (.exit 0) [6, 7] (.us 6 (.cst (.ref 1 1 0) (.cst (.ref 2 1 0) (.us 30 .unit)))) [(.list 1 y_api_Tensor true (.pair (.i .i64) (.pair (.i .i64) (.pair (.i .i64) (.pair (.si .u32) .unit))))), (.list 1 y_api_Tensor true (.pair (.i .i64) (.pair (.i .i64) (.pair (.i .i64) (.cst .nils .unit))))), (.list 1 y_api_Tensor true (.pair (.i .i64) (.pair (.i .i64) (.pair (.i .i64) (.pair (.own 3 1 0 1) .unit))))), (.ints 1 y_uint32 true .u32)])
abbrev S_tensor_Each__kern_Widec1_0 : Type := T ff_tensor_Each__kern_Widec1_0 × TH hf_tensor_Each__kern_Widec1_0
abbrev E_tensor_Each__kern_Widec1_0 : Type := TX X_tensor_Each__kern_Widec1_0
noncomputable def LB_tensor_Each__kern_Widec1_0 : Lps := L0
noncomputable def st_tensor_Each__kern_Widec1_0 : StepT S_tensor_Each__kern_Widec1_0 E_tensor_Each__kern_Widec1_0 := fun R v kn ko =>
  let x0 : Int := v.1.2.2.1
  let x1 : List Int := v.1.1
  let x2 : Nat := (Int.toNat x0)
  let x3 : List Int := v.2.1.2.2.2.1
  bif (decide (x0 < v.1.2.1)) then
    bif (decide (((0:Int) ≤ x0) ∧ (x0 < (((List.length x1) : Nat) : Int)))) then
      ((F_kern_Widec1 x0 (List.getD x1 x2 (0:Int)) (v.2.1.1, (v.2.1.2.1, (v.2.1.2.2.1, ((List.take (List.length x3) x3), ())))))).bind fun r4 =>
      let x5 : List Int := r4.2.1.2.2.2.1
      bif (decide (((0:Int) ≤ x0) ∧ (x0 < ((v.2.2.2.1.2.2.2.1 : Nat) : Int)))) then
        bif (decide (((0:Nat) + (x2 * (1:Nat))) < (List.length v.2.2.2.2.1))) then
          (kn (((List.take (List.length x1) x1), (v.1.2.1, ((IntKind.wrap .i64 (x0 + (1:Int))), ()))), ((r4.2.1.1, (r4.2.1.2.1, (r4.2.1.2.2.1, ((List.take (List.length x5) x5), ())))), (v.2.2.1, (v.2.2.2.1, ((List.set v.2.2.2.2.1 ((0:Nat) + (x2 * (1:Nat))) r4.1), ()))))))
        else
          none
      else
        none
    else
      none
  else
    (ko ((), ((v.2.1.1, (v.2.1.2.1, (v.2.1.2.2.1, ((List.take (List.length x3) x3), ())))), v.2.2)))
noncomputable def ls_tensor_Each__kern_Widec1_0 : St → LTr := (lsum ff_tensor_Each__kern_Widec1_0 hf_tensor_Each__kern_Widec1_0 X_tensor_Each__kern_Widec1_0 Prod.mk id st_tensor_Each__kern_Widec1_0 (hd [] [] [2, 6, 7, 21, 22, 23] 1))
theorem lp_tensor_Each__kern_Widec1_0 : LoopOk PR 1 (lpN f_tensor_Each 0) ls_tensor_Each__kern_Widec1_0 := loopT okO_tensor_Each__kern_Widec1 mixed (L := LB_tensor_Each__kern_Widec1_0) (d := 1) (bs := []) (ks := [2, 6, 7, 21, 22, 23]) (loopsL (l := []) (by kernel_rfl) trivial) (by kernel_rfl) (inS := Prod.mk) (outS := id) (fun _ _ => rfl) (inX := id) (outX := id) (fun _ => rfl) (fun v R kn ko => by kernel_rfl) (hd_wk [] [] [2, 6, 7, 21, 22, 23] 1)
noncomputable def L_tensor_Each__kern_Widec1 : Lps := (lpB 4 (.by_ ls_tensor_Each__kern_Widec1_0) L0)
def inn_tensor_Each__kern_Widec1 : T fr_tensor_Each__kern_Widec1 → TH hr_tensor_Each__kern_Widec1 → (Int × Int × Int × List Int × Unit) × ((Int × Int × Int × List Int × Unit) × Unit) := Prod.mk
def out_tensor_Each__kern_Widec1 : (Int × Int × Int × List Int × Unit) × ((Int × Int × Int × List Int × Unit) × Unit) → T fr_tensor_Each__kern_Widec1 × TH hr_tensor_Each__kern_Widec1 := id
noncomputable def F_tensor_Each__kern_Widec1 (a0 : Int × Int × Int × List Int × Unit) (a1 : Int) (a2 : Int × Int × Int × List Int × Unit) : Option ((Int × Int × Int × List Int × Unit) × ((Int × Int × Int × List Int × Unit) × Unit)) :=
  let x0 : List Int := a0.2.2.2.1
  let x1 : Nat := (List.length x0)
  let x2 : Int := ((x1 : Nat) : Int)
  let x3 : Int := a2.2.2.1
  let x4 : List Int := a2.2.2.2.1
  let x5 : Nat := (Int.toNat x2)
  bif (decide (((0:Int) ≤ x2) ∧ (x2 ≤ (1073741824:Int)))) then
    ((lim st_tensor_Each__kern_Widec1_0 (((List.take x1 x0), (x2, ((0:Int), ()))), ((a2.1, (a2.2.1, (x3, ((List.take (List.length x4) x4), ())))), (((0:Int), ((0:Int), ((0:Int), ()))), ((a0.1, (a0.2.1, (a1, (x5, ())))), ((List.replicate x5 (0:Int)), ()))))))).bind fun r6 =>
    let x7 : List Int := r6.2.1.2.2.2.1
    (some ((r6.2.2.2.1.1, (r6.2.2.2.1.2.1, (r6.2.2.2.1.2.2.1, ((List.take r6.2.2.2.1.2.2.2.1 (List.drop (0:Nat) r6.2.2.2.2.1)), ())))), ((r6.2.1.1, (r6.2.1.2.1, (r6.2.1.2.2.1, ((List.take (List.length x7) x7), ())))), ())))
  else
    none
noncomputable def G_tensor_Each__kern_Widec1 : T fa_tensor_Each__kern_Widec1 → TH ha_tensor_Each__kern_Widec1 → Option ((Int × Int × Int × List Int × Unit) × ((Int × Int × Int × List Int × Unit) × Unit)) := fun x y => F_tensor_Each__kern_Widec1 x.1 x.2.1 y.1
noncomputable def c_tensor_Each__kern_Widec1 : Orc := ent i_tensor_Each [false, false, true] 0 (sp fa_tensor_Each__kern_Widec1 ha_tensor_Each__kern_Widec1 fr_tensor_Each__kern_Widec1 hr_tensor_Each__kern_Widec1 G_tensor_Each__kern_Widec1 out_tensor_Each__kern_Widec1)
theorem ok_tensor_Each__kern_Widec1 : OrcOk PR c_tensor_Each__kern_Widec1 := fnT okO_tensor_Each__kern_Widec1 mixed p_tensor_Each (by kernel_rfl) (by kernel_rfl) (L := L_tensor_Each__kern_Widec1) (kp := false) (by kernel_rfl) (inn := inn_tensor_Each__kern_Widec1) (out := out_tensor_Each__kern_Widec1) (fun _ _ => rfl) (loopsL (l := [((lpN f_tensor_Each 0), ls_tensor_Each__kern_Widec1_0)]) (by kernel_rfl) ⟨lp_tensor_Each__kern_Widec1_0, trivial⟩) (fun x y => by kernel_rfl)
noncomputable def O_kern_Wide : Orc := (orm c_tensor_Right (orm c_tensor_Each__kern_Widec1 c_kern_Widec1))
theorem okO_kern_Wide : OrcOk PR O_kern_Wide := (orm_ok ok_tensor_Right (orm_ok ok_tensor_Each__kern_Widec1 ok_kern_Widec1))
abbrev fa_kern_Wide : Fm := (.pair (.agg (.pair (.i .i64) (.pair (.i .i64) (.pair (.i .i64) (.pair (.si .u32) .unit))))) .unit)
abbrev ha_kern_Wide : List BF := []
abbrev fr_kern_Wide : Fm := (.tup (.pair (.agg (.pair (.i .i64) (.pair (.i .i64) (.pair (.i .i64) (.pair (.si .u32) .unit))))) (.pair (.i .i64) .unit)))
abbrev hr_kern_Wide : List BF := []
noncomputable def L_kern_Wide : Lps := L0
def inn_kern_Wide : T fr_kern_Wide → TH hr_kern_Wide → (Int × Int × Int × List Int × Unit) × Int × Unit := (fun z w => z)
def out_kern_Wide : (Int × Int × Int × List Int × Unit) × Int × Unit → T fr_kern_Wide × TH hr_kern_Wide := fun r => (r, ())
noncomputable def F_kern_Wide (a0 : Int × Int × Int × List Int × Unit) : Option ((Int × Int × Int × List Int × Unit) × Int × Unit) :=
  let x0 : Int := a0.2.2.1
  let x1 : List Int := a0.2.2.2.1
  ((F_tensor_Right (a0.1, (a0.2.1, (x0, ((List.take (List.length x1) x1), ())))))).bind fun r2 =>
  bif (!r2) then
    (some (((0:Int), ((0:Int), ((0:Int), ([], ())))), ((21:Int), ())))
  else
    ((F_tensor_Each__kern_Widec1 (a0.1, (a0.2.1, (x0, ((List.take (List.length x1) x1), ())))) (2:Int) (a0.1, (a0.2.1, (x0, ((List.take (List.length x1) x1), ())))))).bind fun r3 =>
    let x4 : List Int := r3.1.2.2.2.1
    (some ((r3.1.1, (r3.1.2.1, (r3.1.2.2.1, ((List.take (List.length x4) x4), ())))), ((0:Int), ())))
noncomputable def G_kern_Wide : T fa_kern_Wide → TH ha_kern_Wide → Option ((Int × Int × Int × List Int × Unit) × Int × Unit) := fun x y => F_kern_Wide x.1
noncomputable def c_kern_Wide : Orc := ent i_kern_Wide [] 0 (sp fa_kern_Wide ha_kern_Wide fr_kern_Wide hr_kern_Wide G_kern_Wide out_kern_Wide)
theorem ok_kern_Wide : OrcOk PR c_kern_Wide := fnT okO_kern_Wide mixed p_kern_Wide (by kernel_rfl) (by kernel_rfl) (L := L_kern_Wide) (kp := false) (by kernel_rfl) (inn := inn_kern_Wide) (out := out_kern_Wide) (fun _ _ => rfl) (loopsL (l := []) (by kernel_rfl) trivial) (fun x y => by kernel_rfl)
noncomputable def O_kern_both : Orc := c_kern_Wide
theorem okO_kern_both : OrcOk PR O_kern_both := ok_kern_Wide
abbrev fa_kern_both : Fm := (.pair (.agg (.pair (.i .i64) (.pair (.i .i64) (.pair (.i .i64) (.pair (.si .u32) .unit))))) (.pair (.agg (.pair (.i .i64) (.pair (.i .i64) (.pair (.i .i64) (.pair (.si .u32) .unit))))) .unit))
abbrev ha_kern_both : List BF := []
abbrev fr_kern_both : Fm := (.tup (.pair (.agg (.pair (.i .i64) (.pair (.i .i64) (.pair (.i .i64) (.pair (.si .u32) .unit))))) (.pair (.agg (.pair (.i .i64) (.pair (.i .i64) (.pair (.i .i64) (.pair (.si .u32) .unit))))) (.pair .b .unit))))
abbrev hr_kern_both : List BF := []
noncomputable def L_kern_both : Lps := L0
def inn_kern_both : T fr_kern_both → TH hr_kern_both → (Int × Int × Int × List Int × Unit) × (Int × Int × Int × List Int × Unit) × Bool × Unit := (fun z w => z)
def out_kern_both : (Int × Int × Int × List Int × Unit) × (Int × Int × Int × List Int × Unit) × Bool × Unit → T fr_kern_both × TH hr_kern_both := fun r => (r, ())
noncomputable def F_kern_both (a0 : Int × Int × Int × List Int × Unit) (a1 : Int × Int × Int × List Int × Unit) : Option ((Int × Int × Int × List Int × Unit) × (Int × Int × Int × List Int × Unit) × Bool × Unit) :=
  let x0 : Int := a0.2.2.1
  let x1 : List Int := a0.2.2.2.1
  let x2 : Int := a1.2.2.1
  let x3 : List Int := a1.2.2.2.1
  ((F_kern_Wide (a0.1, (a0.2.1, (x0, ((List.take (List.length x1) x1), ())))))).bind fun r4 =>
  let x5 : Int := r4.1.2.1
  let x6 : Int := r4.1.2.2.1
  let x7 : List Int := r4.1.2.2.2.1
  ((F_kern_Wide (a1.1, (a1.2.1, (x2, ((List.take (List.length x3) x3), ())))))).bind fun r8 =>
  let x9 : Int := r8.1.2.1
  let x10 : Int := r8.1.2.2.1
  let x11 : List Int := r8.1.2.2.2.1
  bif (r4.2.1 == (0:Int)) then
    (some ((r4.1.1, (x5, (x6, ((List.take (List.length x7) x7), ())))), ((r8.1.1, (x9, (x10, ((List.take (List.length x11) x11), ())))), ((r8.2.1 == (0:Int)), ()))))
  else
    (some ((r4.1.1, (x5, (x6, ((List.take (List.length x7) x7), ())))), ((r8.1.1, (x9, (x10, ((List.take (List.length x11) x11), ())))), (false, ()))))
noncomputable def G_kern_both : T fa_kern_both → TH ha_kern_both → Option ((Int × Int × Int × List Int × Unit) × (Int × Int × Int × List Int × Unit) × Bool × Unit) := fun x y => F_kern_both x.1 x.2.1
noncomputable def c_kern_both : Orc := ent i_kern_both [] 0 (sp fa_kern_both ha_kern_both fr_kern_both hr_kern_both G_kern_both out_kern_both)
theorem ok_kern_both : OrcOk PR c_kern_both := fnT okO_kern_both mixed p_kern_both (by kernel_rfl) (by kernel_rfl) (L := L_kern_both) (kp := false) (by kernel_rfl) (inn := inn_kern_both) (out := out_kern_both) (fun _ _ => rfl) (loopsL (l := []) (by kernel_rfl) trivial) (fun x y => by kernel_rfl)
noncomputable def O_kern_line : Orc := orn
theorem okO_kern_line : OrcOk PR O_kern_line := (orn_ok _)
abbrev fa_kern_line : Fm := (.pair (.agg (.pair (.i .i64) (.pair (.i .i64) (.pair (.i .i64) (.pair (.si .u32) .unit))))) (.pair (.i .i64) .unit))
abbrev ha_kern_line : List BF := []
abbrev fr_kern_line : Fm := (.si .u32)
abbrev hr_kern_line : List BF := []
noncomputable def L_kern_line : Lps := L0
def inn_kern_line : T fr_kern_line → TH hr_kern_line → List Int := (fun z w => z)
def out_kern_line : List Int → T fr_kern_line × TH hr_kern_line := fun r => (r, ())
noncomputable def F_kern_line (a0 : Int × Int × Int × List Int × Unit) (a1 : Int) : Option (List Int) :=
  let x0 : Nat := (Int.toNat (IntKind.wrap .i64 (a1 * a0.2.1)))
  let x1 : Nat := ((Int.toNat (IntKind.wrap .i64 ((IntKind.wrap .i64 (a1 + (1:Int))) * a0.2.1))) - x0)
  let x2 : List Int := a0.2.2.2.1
  bif (decide (((0:Int) ≤ (IntKind.wrap .i64 (a1 * a0.2.1))) ∧ (((IntKind.wrap .i64 (a1 * a0.2.1)) ≤ (IntKind.wrap .i64 ((IntKind.wrap .i64 (a1 + (1:Int))) * a0.2.1))) ∧ ((IntKind.wrap .i64 ((IntKind.wrap .i64 (a1 + (1:Int))) * a0.2.1)) ≤ (((List.length x2) : Nat) : Int))))) then
    (some (List.take x1 (List.take x1 (List.drop x0 x2))))
  else
    none
noncomputable def G_kern_line : T fa_kern_line → TH ha_kern_line → Option (List Int) := fun x y => F_kern_line x.1 x.2.1
noncomputable def c_kern_line : Orc := ent i_kern_line [] 0 (sp fa_kern_line ha_kern_line fr_kern_line hr_kern_line G_kern_line out_kern_line)
theorem ok_kern_line : OrcOk PR c_kern_line := fnT okO_kern_line mixed p_kern_line (by kernel_rfl) (by kernel_rfl) (L := L_kern_line) (kp := false) (by kernel_rfl) (inn := inn_kern_line) (out := out_kern_line) (fun _ _ => rfl) (loopsL (l := []) (by kernel_rfl) trivial) (fun x y => by kernel_rfl)
noncomputable def O_kern_Dot : Orc := c_funcs_Fma
theorem okO_kern_Dot : OrcOk PR O_kern_Dot := ok_funcs_Fma
abbrev fa_kern_Dot : Fm := (.pair (.si .u32) (.pair (.si .u32) .unit))
abbrev ha_kern_Dot : List BF := []
abbrev fr_kern_Dot : Fm := (.tup (.pair (.i .u32) (.pair (.i .i64) .unit)))
abbrev hr_kern_Dot : List BF := []
abbrev ff_kern_Dot_0 : Fm := (.us 1 (.pair (.si .u32) (.us 4 (.pair (.i .u32) (.us 7 (.pair (.si .u32) (.pair (.i .i64) (.pair (.i .i64) (.us 13 .unit)))))))))
abbrev hf_kern_Dot_0 : List BF := []
abbrev X_kern_Dot_0 : Xs := (.one (.exit 0) [6] (.us 6 (.pair (.i .u32) (.us 23 .unit))) [])
abbrev S_kern_Dot_0 : Type := T ff_kern_Dot_0 × TH hf_kern_Dot_0
abbrev E_kern_Dot_0 : Type := TX X_kern_Dot_0
noncomputable def LB_kern_Dot_0 : Lps := L0
noncomputable def st_kern_Dot_0 : StepT S_kern_Dot_0 E_kern_Dot_0 := fun R v kn ko =>
  let x0 : List Int := v.1.2.2.1
  let x1 : Int := v.1.2.2.2.2.1
  let x2 : Nat := (Int.toNat x1)
  let x3 : List Int := v.1.1
  let x4 : Int := v.1.2.1
  bif (decide (x1 < v.1.2.2.2.1)) then
    bif (decide (((0:Int) ≤ x1) ∧ (x1 < (((List.length x0) : Nat) : Int)))) then
      bif (decide (((0:Int) ≤ x1) ∧ (x1 < (((List.length x3) : Nat) : Int)))) then
        ((F_funcs_Fma (List.getD x0 x2 (0:Int)) (List.getD x3 x2 (0:Int)) x4)).bind fun r5 =>
        (kn (((List.take (List.length x3) x3), (r5, ((List.take (List.length x0) x0), (v.1.2.2.2.1, ((IntKind.wrap .i64 (x1 + (1:Int))), ()))))), ()))
      else
        none
    else
      none
  else
    (ko ((x4, ()), ()))
noncomputable def ls_kern_Dot_0 : St → LTr := (lsum ff_kern_Dot_0 hf_kern_Dot_0 X_kern_Dot_0 Prod.mk id st_kern_Dot_0 (hd [] [] [1, 6, 14, 15, 16] 0))
theorem lp_kern_Dot_0 : LoopOk PR 0 (lpN f_kern_Dot 0) ls_kern_Dot_0 := loopT okO_kern_Dot mixed (L := LB_kern_Dot_0) (d := 1) (bs := []) (ks := [1, 6, 14, 15, 16]) (loopsL (l := []) (by kernel_rfl) trivial) (by kernel_rfl) (inS := Prod.mk) (outS := id) (fun _ _ => rfl) (inX := id) (outX := id) (fun _ => rfl) (fun v R kn ko => by kernel_rfl) (hd_wk [] [] [1, 6, 14, 15, 16] 0)
noncomputable def L_kern_Dot : Lps := (lpB 6 (.by_ ls_kern_Dot_0) L0)
def inn_kern_Dot : T fr_kern_Dot → TH hr_kern_Dot → Int × Int × Unit := (fun z w => z)
def out_kern_Dot : Int × Int × Unit → T fr_kern_Dot × TH hr_kern_Dot := fun r => (r, ())
noncomputable def F_kern_Dot (a0 : List Int) (a1 : List Int) : Option (Int × Int × Unit) :=
  bif ((((List.length a0) : Nat) : Int) != (((List.length a1) : Nat) : Int)) then
    (some ((0:Int), ((21:Int), ())))
  else
    ((lim st_kern_Dot_0 (((List.take (List.length a1) a1), ((0:Int), ((List.take (List.length a0) a0), ((((List.length a0) : Nat) : Int), ((0:Int), ()))))), ()))).bind fun r0 =>
    (some (r0.1.1, ((0:Int), ())))
noncomputable def G_kern_Dot : T fa_kern_Dot → TH ha_kern_Dot → Option (Int × Int × Unit) := fun x y => F_kern_Dot x.1 x.2.1
noncomputable def c_kern_Dot : Orc := ent i_kern_Dot [] 0 (sp fa_kern_Dot ha_kern_Dot fr_kern_Dot hr_kern_Dot G_kern_Dot out_kern_Dot)
theorem ok_kern_Dot : OrcOk PR c_kern_Dot := fnT okO_kern_Dot mixed p_kern_Dot (by kernel_rfl) (by kernel_rfl) (L := L_kern_Dot) (kp := false) (by kernel_rfl) (inn := inn_kern_Dot) (out := out_kern_Dot) (fun _ _ => rfl) (loopsL (l := [((lpN f_kern_Dot 0), ls_kern_Dot_0)]) (by kernel_rfl) ⟨lp_kern_Dot_0, trivial⟩) (fun x y => by kernel_rfl)
end Go.Proofs.Ytkknnloamidaiaa.VI
