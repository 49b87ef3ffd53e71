import Derived.Test.YtkknnloamidaiaaTc5e4ff57
namespace Go.Proofs.Ytkknnloamidaiaa.VI
set_option linter.unusedVariables false
set_option linter.unusedSimpArgs false
set_option maxRecDepth 100000
set_option maxHeartbeats 4000000
abbrev wf (f a : Int) : Prop := 0 ≤ a ∧ a < 2 * TT f
theorem wf_w {f a : Int} (h : wf f a) : w32 a := ⟨h.1, by have := TT_cs f; omega⟩
theorem sgn_wf (f : Int) (n : Bool) {x : Int} (h : 0 ≤ x ∧ x < TT f) : wf f (sgn f n + x) := by
  have := sgn_bd f n
  have := TT_cs f
  exact ⟨by omega, by omega⟩
theorem over_wf (f mode : Int) (n : Bool) : wf f (overS f mode n) := by
  have ib := IN_bd f
  have fb := fmt_bd f
  unfold overS
  split
  · exact sgn_wf f n (by omega)
  · exact sgn_wf f n (by omega)
theorem fin2_wf (f mode : Int) (n : Bool) (u q : Int) (h r s : Bool) (hq : 0 ≤ q) (hq2 : q ≤ 2 * BB f) (hu : le f - MM f ≤ u) : wf f (fin2 f mode n u q h r s).1 := by
  have fb := fmt_bd f
  have ib := IN_bd f
  unfold fin2
  have hq3 : 0 ≤ (if q / (2 * BB f) = 0 then q else q / 2) := by split <;> omega
  generalize (if q / (2 * BB f) = 0 then q else q / 2) = q2 at *
  have hu2 : le f - MM f ≤ (if q / (2 * BB f) = 0 then u else u + 1) := by split <;> omega
  generalize (if q / (2 * BB f) = 0 then u else u + 1) = u2 at *
  have ha : 0 ≤ (if q2 / BB f = 0 then 0 else u2 + MM f - le f + 1) := by split <;> omega
  generalize (if q2 / BB f = 0 then 0 else u2 + MM f - le f + 1) = a at *
  have hm : 0 ≤ q2 % BB f ∧ q2 % BB f < BB f := by rcases fb.2.1 with h | h | h <;> rw [h] <;> omega
  by_cases o : a ≥ RR f - 1
  · rw [if_pos o]; exact over_wf f mode n
  · rw [if_neg o]
    show wf f (sgn f n + a * BB f + q2 % BB f)
    rw [Int.add_assoc]
    apply sgn_wf
    have h1 : (a + 1) * BB f ≤ RR f * BB f := Int.mul_le_mul_of_nonneg_right (by omega) (by omega)
    rw [Int.add_mul, ← TT_RB] at h1
    have h2 : 0 ≤ a * BB f := Int.mul_nonneg ha (by omega)
    omega
theorem pk_wf (f mode : Int) (n : Bool) (e N : Int) (m : Bool) (hN : 0 ≤ N) : wf f (pk f mode n e N m).1 := by
  have fb := fmt_bd f
  have hq := q_bd f e N hN
  unfold pk
  split
  · have := sgn_wf f n (x := 0) (by omega); simpa using this
  · refine fin2_wf f mode n _ _ _ _ _ ?_ ?_ ?_
    · unfold fin1; split <;> omega
    · unfold fin1; split <;> omega
    · unfold unitS; split <;> omega
theorem tot_wf (f mode T : Int) : wf f (totS f mode T).1 := by
  have fb := fmt_bd f
  unfold totS
  split
  · have := sgn_wf f (decide (mode = 3)) (x := 0) (by omega); simpa using this
  · exact pk_wf _ _ _ _ _ _ (by split <;> omega)
theorem NN_wf (f : Int) : wf f (NN f) := by
  have ib := IN_bd f
  have fb := fmt_bd f
  unfold NN; exact ⟨by omega, by omega⟩
theorem infs_wf (f : Int) (n : Bool) : wf f (sgn f n + IN f) := by
  have ib := IN_bd f
  have fb := fmt_bd f
  exact sgn_wf f n (by omega)
theorem sum_wf (f mode : Int) (n : Bool) (e N : Int) (m : Bool) (d M : Int) : wf f (sumS f mode n e N m d M).1 := by
  have fb := fmt_bd f
  unfold sumS
  split
  · have := sgn_wf f n (x := 0) (by omega); simpa using this
  · exact tot_wf _ _ _
theorem fma_wf (f mode a b c : Int) : wf f (fmaS f mode a b c).1 := by
  unfold fmaS
  split
  · exact NN_wf f
  · split
    · split
      · exact NN_wf f
      · exact infs_wf f _
    · split
      · exact infs_wf f _
      · exact sum_wf _ _ _ _ _ _ _ _
theorem mul_wf (f mode a b : Int) : wf f (mulS f mode a b).1 := by
  unfold mulS
  split
  · exact NN_wf f
  · split
    · exact NN_wf f
    · split
      · exact infs_wf f _
      · exact pk_wf _ _ _ _ _ _ (sig_mul f a b).1.1
def fma (a b c : Int) : Int := (fmaS 2 0 a b c).1
theorem fma_w (a b c : Int) : w32 (fma a b c) := wf_w (fma_wf 2 0 a b c)
theorem ffma_eq {a b c : Int} (ha : w32 a) (hb : w32 b) (hc : w32 c) : F_91a a b c = some (fma a b c) := by
  unfold F_91a; rw [fma_eq 2 0 ha hb hc]; rfl
theorem sig_w64 (f a : Int) : w64 (sig f a) := by
  have A := sig_bd f a
  have fb := fmt_bd f
  exact ⟨A.1, by omega⟩
def addS (f mode a b : Int) : Int × ExcT × Unit :=
  if nan f a || nan f b then (NN f, (loud f a || loud f b, false, false, false, false, ()), ())
  else if inff f a && (inff f b && !(sg f a == sg f b)) then (NN f, (true, false, false, false, false, ()), ())
  else if inff f a then (sgn f (sg f a) + IN f, EXC0, ())
  else if inff f b then (sgn f (sg f b) + IN f, EXC0, ())
  else sumS f mode (sg f a) (xp f a) (sig f a) (sg f b) (xp f b) (sig f b)
theorem add_eq (f mode : Int) {a b : Int} (ha : w32 a) (hb : w32 b) : F_931 f mode a b = some (addS f mode a b) := by
  have xa := xp_bd f a
  have xb := xp_bd f b
  have hs := psum_eq f mode (sg f a) (sg f b) (N := sig f a) (M := sig f b) (sig_48 f a) (sig_48 f b) (show -298 ≤ xp f a ∧ xp f a ≤ 300 by omega) (show -298 ≤ xp f b ∧ xp f b ≤ 300 by omega)
  unfold F_931 F_946 F_942 addS
  rw [snans_eq f [a, b] (by simp) (by simpa using ⟨ha, hb⟩), neg_eq f ha, neg_eq f hb, isinf_eq f ha, isinf_eq f hb, of_eq f ha, of_eq f hb, nan_w]
  simp only [Option.bind_some, List.any_cons, List.any_nil, Bool.or_false, inf_eq]
  rw [hs]
  generalize sumS f mode (sg f a) (xp f a) (sig f a) (sg f b) (xp f b) (sig f b) = W
  rcases cls f a with ⟨a1, a3, a4⟩ | ⟨a1, a2, a3, a4⟩ | ⟨a1, a2, a3, a4⟩ | ⟨a1, a2, a3, a4⟩ <;> rcases cls f b with ⟨b1, b3, b4⟩ | ⟨b1, b2, b3, b4⟩ | ⟨b1, b2, b3, b4⟩ | ⟨b1, b2, b3, b4⟩ <;> simp only [a1, a3, a4, b1, b3, b4] <;> first | rfl | (cases sg f a <;> cases sg f b <;> rfl)
theorem add_wf (f mode a b : Int) : wf f (addS f mode a b).1 := by
  unfold addS
  split
  · exact NN_wf f
  · split
    · exact NN_wf f
    · split
      · exact infs_wf f _
      · split
        · exact infs_wf f _
        · exact sum_wf _ _ _ _ _ _ _ _
def addf (a b : Int) : Int := (addS 2 0 a b).1
theorem addf_w (a b : Int) : w32 (addf a b) := wf_w (add_wf 2 0 a b)
theorem fadd_eq {a b : Int} (ha : w32 a) (hb : w32 b) : F_915 a b = some (addf a b) := by
  unfold F_915; rw [add_eq 2 0 ha hb]; rfl
noncomputable def O_91b : Orc := c_91a
theorem okO_91b : OrcOk PR O_91b := ok_91a
abbrev fa_91b : Fm := (.pair (.i .u32) (.pair (.i .u32) (.pair (.si .u32) .unit)))
abbrev ha_91b : List BF := []
abbrev fr_91b : Fm := (.i .u32)
abbrev hr_91b : List BF := []
abbrev ff_91b_0 : Fm := (.pair (.i .u32) (.pair (.i .u32) (.us 7 (.pair (.si .u32) (.pair (.i .i64) (.pair (.i .i64) (.us 9 .unit)))))))
abbrev hf_91b_0 : List BF := []
abbrev X_91b_0 : Xs := (.one (.exit 0) [1] (.us 1 (.pair (.i .u32) (.us 19 .unit))) [])
abbrev S_91b_0 : Type := T ff_91b_0 × TH hf_91b_0
abbrev E_91b_0 : Type := TX X_91b_0
noncomputable def LB_91b_0 : Lps := L0
noncomputable def st_91b_0 : StepT S_91b_0 E_91b_0 := fun R v kn ko =>
 let x0 : Int := v.1.2.1
 let x1 : Int := v.1.1
 let x2 : List Int := v.1.2.2.1
 let x3 : Int := v.1.2.2.2.2.1
 bif (decide (x3 < v.1.2.2.2.1)) then
 bif (decide (((0:Int) ≤ x3) ∧ (x3 < (((List.length x2) : Nat) : Int)))) then
 ((F_91a x0 x1 (List.getD x2 (Int.toNat x3) (0:Int)))).bind fun r4 =>
 (kn ((x1, (r4, ((List.take (List.length x2) x2), (v.1.2.2.2.1, ((IntKind.wrap .i64 (x3 + (1:Int))), ()))))), ()))
 else
 none
 else
 (ko ((x0, ()), ()))
noncomputable def ls_91b_0 : St → LTr := (lsum ff_91b_0 hf_91b_0 X_91b_0 Prod.mk id st_91b_0 (hd [] [] [0, 1, 9, 10, 11] 0))
theorem lp_91b_0 : LoopOk PR 0 (lpN f_91b 0) ls_91b_0 := loopT okO_91b mixed (L := LB_91b_0) (d := 1) (bs := []) (ks := [0, 1, 9, 10, 11]) (loopsL (l := []) (by kernel_rfl) trivial) (by kernel_rfl) (inS := Prod.mk) (outS := id) (fun _ _ => rfl) (inX := id) (outX := id) (fun _ => rfl) (fun v R kn ko => by kernel_rfl) (hd_wk [] [] [0, 1, 9, 10, 11] 0)
noncomputable def L_91b : Lps := (lpB 3 (.by_ ls_91b_0) L0)
def inn_91b : T fr_91b → TH hr_91b → Int := (fun z w => z)
def out_91b : Int → T fr_91b × TH hr_91b := fun r => (r, ())
noncomputable def F_91b (a0 : Int) (a1 : Int) (a2 : List Int) : Option (Int) :=
 ((lim st_91b_0 ((a0, (a1, ((List.take (List.length a2) a2), ((((List.length a2) : Nat) : Int), ((0:Int), ()))))), ()))).bind fun r0 =>
 (some r0.1.1)
noncomputable def G_91b : T fa_91b → TH ha_91b → Option (Int) := fun x y => F_91b x.1 x.2.1 x.2.2.1
noncomputable def c_91b : Orc := ent i_91b [] 0 (sp fa_91b ha_91b fr_91b hr_91b G_91b out_91b)
theorem ok_91b : OrcOk PR c_91b := fnT okO_91b mixed p_91b (by kernel_rfl) (by kernel_rfl) (L := L_91b) (kp := false) (by kernel_rfl) (inn := inn_91b) (out := out_91b) (fun _ _ => rfl) (loopsL (l := [((lpN f_91b 0), ls_91b_0)]) (by kernel_rfl) ⟨lp_91b_0, trivial⟩) (fun x y => by kernel_rfl)
noncomputable def O_94 : Orc := (orm c_9d (orm c_9e (orm c_912 (orm c_916 (orm c_918 (orm c_917 (orm c_919 (orm c_911 (orm c_91a (orm c_91b c_91c))))))))))
theorem okO_94 : OrcOk PR O_94 := (orm_ok ok_9d (orm_ok ok_9e (orm_ok ok_912 (orm_ok ok_916 (orm_ok ok_918 (orm_ok ok_917 (orm_ok ok_919 (orm_ok ok_911 (orm_ok ok_91a (orm_ok ok_91b ok_91c))))))))))
abbrev fa_94 : Fm := (.pair (.i .u32) .unit)
abbrev ha_94 : List BF := []
abbrev fr_94 : Fm := (.i .u32)
abbrev hr_94 : List BF := []
noncomputable def L_94 : Lps := L0
def inn_94 : T fr_94 → TH hr_94 → Int := (fun z w => z)
def out_94 : Int → T fr_94 × TH hr_94 := fun r => (r, ())
noncomputable def F_94 (a0 : Int) : Option (Int) :=
 ((F_9d a0)).bind fun r0 =>
 bif r0 then
 (some (2143289344:Int))
 else
 ((F_912 a0 (1118925336:Int))).bind fun r1 =>
 bif r1 then
 (some (2139095040:Int))
 else
 ((F_912 (3268407733:Int) a0)).bind fun r2 =>
 bif r2 then
 (some (0:Int))
 else
 ((F_918 a0 (1069066811:Int))).bind fun r3 =>
 ((F_917 (2:Int) (0:Int) r3)).bind fun r4 =>
 let x5 : Int := (IntKind.wrap .i64 r4.1)
 ((F_919 x5)).bind fun r6 =>
 let x7 : Int := (bits .xor .u32 (bits .and .u32 r6 (4294967295:Int)) (2147483648:Int))
 ((F_91a x7 (1060205056:Int) a0)).bind fun r8 =>
 ((F_91a x7 (901758606:Int) r8)).bind fun r9 =>
 ((F_91b r9 (985008993:Int) [(1007192201:Int), (1026206379:Int), (1042983595:Int), (1056964608:Int), (1065353216:Int), (1065353216:Int)])).bind fun r10 =>
 ((F_91c r10 x5)).bind fun r11 =>
 (some r11)
noncomputable def G_94 : T fa_94 → TH ha_94 → Option (Int) := fun x y => F_94 x.1
noncomputable def c_94 : Orc := ent i_94 [] 0 (sp fa_94 ha_94 fr_94 hr_94 G_94 out_94)
theorem ok_94 : OrcOk PR c_94 := fnT okO_94 mixed p_94 (by kernel_rfl) (by kernel_rfl) (L := L_94) (kp := false) (by kernel_rfl) (inn := inn_94) (out := out_94) (fun _ _ => rfl) (loopsL (l := []) (by kernel_rfl) trivial) (fun x y => by kernel_rfl)
noncomputable def O_98 : Orc := (orm c_9d (orm c_9e (orm c_9f (orm c_916 (orm c_910 (orm c_920 (orm c_921 (orm c_922 (orm c_91c (orm c_912 (orm c_913 (orm c_915 (orm c_914 (orm c_918 (orm c_91b (orm c_91a c_919))))))))))))))))
theorem okO_98 : OrcOk PR O_98 := (orm_ok ok_9d (orm_ok ok_9e (orm_ok ok_9f (orm_ok ok_916 (orm_ok ok_910 (orm_ok ok_920 (orm_ok ok_921 (orm_ok ok_922 (orm_ok ok_91c (orm_ok ok_912 (orm_ok ok_913 (orm_ok ok_915 (orm_ok ok_914 (orm_ok ok_918 (orm_ok ok_91b (orm_ok ok_91a ok_919))))))))))))))))
abbrev fa_98 : Fm := (.pair (.i .u32) .unit)
abbrev ha_98 : List BF := []
abbrev fr_98 : Fm := (.i .u32)
abbrev hr_98 : List BF := []
noncomputable def L_98 : Lps := L0
def inn_98 : T fr_98 → TH hr_98 → Int := (fun z w => z)
def out_98 : Int → T fr_98 × TH hr_98 := fun r => (r, ())
noncomputable def F_98 (a0 : Int) : Option (Int) :=
 let x0 : List Int := [(1049774373:Int), (1053609165:Int), (1059760811:Int)]
 ((F_9d a0)).bind fun r1 =>
 bif r1 then
 (some (2143289344:Int))
 else
 ((F_9f (2:Int) a0)).bind fun r2 =>
 bif r2 then
 (some (4286578688:Int))
 else
 bif ((bits .and .u32 (a0 / (2147483648:Int)) (1:Int)) == (1:Int)) then
 (some (2143289344:Int))
 else
 ((F_920 (2:Int) a0)).bind fun r3 =>
 bif r3 then
 (some a0)
 else
 ((F_921 (2:Int) a0)).bind fun r4 =>
 let x5 : Int := r4.2.2.1
 ((F_922 x5)).bind fun r6 =>
 let x7 : Int := (IntKind.wrap .i64 ((IntKind.wrap .i64 (r4.2.1 + r6)) - (1:Int)))
 ((F_91c a0 (IntKind.wrap .i64 ((0:Int) - x7)))).bind fun r8 =>
 ((F_912 r8 (1068827891:Int))).bind fun r9 =>
 bif r9 then
 ((F_91c r8 (-(1:Int)))).bind fun r10 =>
 ((F_913 r10 (1065353216:Int))).bind fun r11 =>
 ((F_915 (1073741824:Int) r11)).bind fun r12 =>
 ((F_914 r11 r12)).bind fun r13 =>
 ((F_918 r13 r13)).bind fun r14 =>
 ((F_91b r14 (1046711865:Int) x0)).bind fun r15 =>
 ((F_918 r15 r14)).bind fun r16 =>
 ((F_915 r13 r13)).bind fun r17 =>
 ((F_91a r13 r16 r17)).bind fun r18 =>
 ((F_919 (IntKind.wrap .i64 (x7 + (1:Int))))).bind fun r19 =>
 ((F_91a r19 (901758606:Int) r18)).bind fun r20 =>
 ((F_91a r19 (1060205056:Int) r20)).bind fun r21 =>
 (some r21)
 else
 ((F_913 r8 (1065353216:Int))).bind fun r22 =>
 ((F_915 (1073741824:Int) r22)).bind fun r23 =>
 ((F_914 r22 r23)).bind fun r24 =>
 ((F_918 r24 r24)).bind fun r25 =>
 ((F_91b r25 (1046711865:Int) x0)).bind fun r26 =>
 ((F_918 r26 r25)).bind fun r27 =>
 ((F_915 r24 r24)).bind fun r28 =>
 ((F_91a r24 r27 r28)).bind fun r29 =>
 ((F_919 x7)).bind fun r30 =>
 ((F_91a r30 (901758606:Int) r29)).bind fun r31 =>
 ((F_91a r30 (1060205056:Int) r31)).bind fun r32 =>
 (some r32)
noncomputable def G_98 : T fa_98 → TH ha_98 → Option (Int) := fun x y => F_98 x.1
noncomputable def c_98 : Orc := ent i_98 [] 0 (sp fa_98 ha_98 fr_98 hr_98 G_98 out_98)
theorem ok_98 : OrcOk PR c_98 := fnT okO_98 mixed p_98 (by kernel_rfl) (by kernel_rfl) (L := L_98) (kp := false) (by kernel_rfl) (inn := inn_98) (out := out_98) (fun _ _ => rfl) (loopsL (l := []) (by kernel_rfl) trivial) (fun x y => by kernel_rfl)
noncomputable def O_93 : Orc := (orm c_9d (orm c_9e (orm c_9f (orm c_910 (orm c_911 (orm c_912 (orm c_915 (orm c_94 (orm c_914 c_913)))))))))
theorem okO_93 : OrcOk PR O_93 := (orm_ok ok_9d (orm_ok ok_9e (orm_ok ok_9f (orm_ok ok_910 (orm_ok ok_911 (orm_ok ok_912 (orm_ok ok_915 (orm_ok ok_94 (orm_ok ok_914 ok_913)))))))))
abbrev fa_93 : Fm := (.pair (.i .u32) .unit)
abbrev ha_93 : List BF := []
abbrev fr_93 : Fm := (.i .u32)
abbrev hr_93 : List BF := []
noncomputable def L_93 : Lps := L0
def inn_93 : T fr_93 → TH hr_93 → Int := (fun z w => z)
def out_93 : Int → T fr_93 × TH hr_93 := fun r => (r, ())
noncomputable def F_93 (a0 : Int) : Option (Int) :=
 let x0 : Bool := ((bits .and .u32 (a0 / (2147483648:Int)) (1:Int)) == (1:Int))
 let x1 : Int := (bits .xor .u32 (bits .and .u32 a0 (4294967295:Int)) (2147483648:Int))
 ((F_9d a0)).bind fun r2 =>
 bif r2 then
 (some (2143289344:Int))
 else
 ((F_9f (2:Int) a0)).bind fun r3 =>
 bif r3 then
 (some a0)
 else
 bif x0 then
 ((F_912 x1 (1091579060:Int))).bind fun r4 =>
 bif (!r4) then
 ((F_915 x1 x1)).bind fun r5 =>
 ((F_94 r5)).bind fun r6 =>
 ((F_915 r6 (1065353216:Int))).bind fun r7 =>
 ((F_914 (1073741824:Int) r7)).bind fun r8 =>
 ((F_913 (1065353216:Int) r8)).bind fun r9 =>
 bif x0 then
 (some (bits .xor .u32 (bits .and .u32 r9 (4294967295:Int)) (2147483648:Int)))
 else
 (some r9)
 else
 bif x0 then
 (some (3212836864:Int))
 else
 (some (1065353216:Int))
 else
 ((F_912 a0 (1091579060:Int))).bind fun r10 =>
 bif (!r10) then
 ((F_915 a0 a0)).bind fun r11 =>
 ((F_94 r11)).bind fun r12 =>
 ((F_915 r12 (1065353216:Int))).bind fun r13 =>
 ((F_914 (1073741824:Int) r13)).bind fun r14 =>
 ((F_913 (1065353216:Int) r14)).bind fun r15 =>
 bif x0 then
 (some (bits .xor .u32 (bits .and .u32 r15 (4294967295:Int)) (2147483648:Int)))
 else
 (some r15)
 else
 bif x0 then
 (some (3212836864:Int))
 else
 (some (1065353216:Int))
noncomputable def G_93 : T fa_93 → TH ha_93 → Option (Int) := fun x y => F_93 x.1
noncomputable def c_93 : Orc := ent i_93 [] 0 (sp fa_93 ha_93 fr_93 hr_93 G_93 out_93)
theorem ok_93 : OrcOk PR c_93 := fnT okO_93 mixed p_93 (by kernel_rfl) (by kernel_rfl) (L := L_93) (kp := false) (by kernel_rfl) (inn := inn_93) (out := out_93) (fun _ _ => rfl) (loopsL (l := []) (by kernel_rfl) trivial) (fun x y => by kernel_rfl)
noncomputable def O_95 : Orc := (orm c_911 (orm c_94 (orm c_915 c_914)))
theorem okO_95 : OrcOk PR O_95 := (orm_ok ok_911 (orm_ok ok_94 (orm_ok ok_915 ok_914)))
abbrev fa_95 : Fm := (.pair (.i .u32) .unit)
abbrev ha_95 : List BF := []
abbrev fr_95 : Fm := (.i .u32)
abbrev hr_95 : List BF := []
noncomputable def L_95 : Lps := L0
def inn_95 : T fr_95 → TH hr_95 → Int := (fun z w => z)
def out_95 : Int → T fr_95 × TH hr_95 := fun r => (r, ())
noncomputable def F_95 (a0 : Int) : Option (Int) :=
 ((F_94 (bits .xor .u32 (bits .and .u32 a0 (4294967295:Int)) (2147483648:Int)))).bind fun r0 =>
 ((F_915 (1065353216:Int) r0)).bind fun r1 =>
 ((F_914 (1065353216:Int) r1)).bind fun r2 =>
 (some r2)
noncomputable def G_95 : T fa_95 → TH ha_95 → Option (Int) := fun x y => F_95 x.1
noncomputable def c_95 : Orc := ent i_95 [] 0 (sp fa_95 ha_95 fr_95 hr_95 G_95 out_95)
theorem ok_95 : OrcOk PR c_95 := fnT okO_95 mixed p_95 (by kernel_rfl) (by kernel_rfl) (L := L_95) (kp := false) (by kernel_rfl) (inn := inn_95) (out := out_95) (fun _ _ => rfl) (loopsL (l := []) (by kernel_rfl) trivial) (fun x y => by kernel_rfl)
noncomputable def O_928 : Orc := (orm c_918 c_91a)
theorem okO_928 : OrcOk PR O_928 := (orm_ok ok_918 ok_91a)
abbrev fa_928 : Fm := (.pair (.i .u32) .unit)
abbrev ha_928 : List BF := []
abbrev fr_928 : Fm := (.i .u32)
abbrev hr_928 : List BF := []
noncomputable def L_928 : Lps := L0
def inn_928 : T fr_928 → TH hr_928 → Int := (fun z w => z)
def out_928 : Int → T fr_928 × TH hr_928 := fun r => (r, ())
noncomputable def F_928 (a0 : Int) : Option (Int) :=
 ((F_918 a0 a0)).bind fun r0 =>
 ((F_918 r0 a0)).bind fun r1 =>
 ((F_91a (1027024659:Int) r1 a0)).bind fun r2 =>
 ((F_918 (1061962282:Int) r2)).bind fun r3 =>
 (some r3)
noncomputable def G_928 : T fa_928 → TH ha_928 → Option (Int) := fun x y => F_928 x.1
noncomputable def c_928 : Orc := ent i_928 [] 0 (sp fa_928 ha_928 fr_928 hr_928 G_928 out_928)
theorem ok_928 : OrcOk PR c_928 := fnT okO_928 mixed p_928 (by kernel_rfl) (by kernel_rfl) (L := L_928) (kp := false) (by kernel_rfl) (inn := inn_928) (out := out_928) (fun _ _ => rfl) (loopsL (l := []) (by kernel_rfl) trivial) (fun x y => by kernel_rfl)
noncomputable def O_9c : Orc := (orm c_918 (orm c_928 (orm c_93 c_915)))
theorem okO_9c : OrcOk PR O_9c := (orm_ok ok_918 (orm_ok ok_928 (orm_ok ok_93 ok_915)))
abbrev fa_9c : Fm := (.pair (.i .u32) .unit)
abbrev ha_9c : List BF := []
abbrev fr_9c : Fm := (.i .u32)
abbrev hr_9c : List BF := []
noncomputable def L_9c : Lps := L0
def inn_9c : T fr_9c → TH hr_9c → Int := (fun z w => z)
def out_9c : Int → T fr_9c × TH hr_9c := fun r => (r, ())
noncomputable def F_9c (a0 : Int) : Option (Int) :=
 ((F_918 (1056964608:Int) a0)).bind fun r0 =>
 ((F_928 a0)).bind fun r1 =>
 ((F_93 r1)).bind fun r2 =>
 ((F_915 (1065353216:Int) r2)).bind fun r3 =>
 ((F_918 r0 r3)).bind fun r4 =>
 (some r4)
noncomputable def G_9c : T fa_9c → TH ha_9c → Option (Int) := fun x y => F_9c x.1
noncomputable def c_9c : Orc := ent i_9c [] 0 (sp fa_9c ha_9c fr_9c hr_9c G_9c out_9c)
theorem ok_9c : OrcOk PR c_9c := fnT okO_9c mixed p_9c (by kernel_rfl) (by kernel_rfl) (L := L_9c) (kp := false) (by kernel_rfl) (inn := inn_9c) (out := out_9c) (fun _ _ => rfl) (loopsL (l := []) (by kernel_rfl) trivial) (fun x y => by kernel_rfl)
noncomputable def O_92 : Orc := (orm c_94 (orm c_98 (orm c_93 (orm c_95 c_9c))))
theorem okO_92 : OrcOk PR O_92 := (orm_ok ok_94 (orm_ok ok_98 (orm_ok ok_93 (orm_ok ok_95 ok_9c))))
abbrev fa_92 : Fm := .unit
abbrev ha_92 : List BF := []
abbrev fr_92 : Fm := .b
abbrev hr_92 : List BF := []
noncomputable def L_92 : Lps := L0
def inn_92 : T fr_92 → TH hr_92 → Bool := (fun z w => z)
def out_92 : Bool → T fr_92 × TH hr_92 := fun r => (r, ())
noncomputable def F_92  : Option (Bool) :=
 ((F_94 (0:Int))).bind fun r0 =>
 bif (r0 == (1065353216:Int)) then
 ((F_98 (1065353216:Int))).bind fun r1 =>
 bif (r1 == (0:Int)) then
 ((F_95 (0:Int))).bind fun r2 =>
 bif (r2 == (1056964608:Int)) then
 ((F_9c (0:Int))).bind fun r3 =>
 (some (r3 == (0:Int)))
 else
 (some false)
 else
 (some false)
 else
 (some false)
noncomputable def G_92 : T fa_92 → TH ha_92 → Option (Bool) := fun x y => F_92
noncomputable def c_92 : Orc := ent i_92 [] 0 (sp fa_92 ha_92 fr_92 hr_92 G_92 out_92)
theorem ok_92 : OrcOk PR c_92 := fnT okO_92 mixed p_92 (by kernel_rfl) (by kernel_rfl) (L := L_92) (kp := false) (by kernel_rfl) (inn := inn_92) (out := out_92) (fun _ _ => rfl) (loopsL (l := []) (by kernel_rfl) trivial) (fun x y => by kernel_rfl)
end Go.Proofs.Ytkknnloamidaiaa.VI
