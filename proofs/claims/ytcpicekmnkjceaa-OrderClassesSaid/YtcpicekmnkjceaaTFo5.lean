import Derived.Test.YtcpicekmnkjceaaTFo4
namespace Go.Proofs.Ytcpicekmnkjceaa.VI
set_option linter.unusedVariables false
set_option linter.unusedSimpArgs false
set_option maxRecDepth 100000
set_option linter.unusedSimpArgs false
set_option linter.unusedVariables false
def sForm7 (l : List V) (h : Heap) : Tr := match l, h with
  | [.i .u8 k], [] => .ret (.i .i64 (k % 3)) []
  | _, _ => .no
theorem okForm7 : OrcOk PR (ent i_anneallaw7_form [] 0 sForm7) := fn0 (orn_ok _) mixed p_anneallaw7_form (by kernel_rfl) (by kernel_rfl) (by kernel_rfl) fun l hc r h' hv ho hh => by
  unfold sForm7 at hv
  split at hv
  · rename_i k
    obtain ⟨rfl, rfl⟩ := Tr.ret_val hv
    have : run0 PR orn f_anneallaw7_form [.i .u8 k] [] = gud (decide (0 ≤ k.tmod 3 ∧ k.tmod 3 < 3)) (gud (decide (0 + (k.tmod 3).toNat * 1 < 3)) (ri .i64 (([0, 1, 2] : List Int).getD (0 + (k.tmod 3).toNat * 1) 0))) := by kernel_rfl
    rw [this]
    have hk : 0 ≤ k ∧ k ≤ 255 := ho.1
    have hm : k.tmod 3 = k % 3 := Int.tmod_eq_emod_of_nonneg hk.1
    rw [hm, decide_eq_true (show 0 ≤ k % 3 ∧ k % 3 < 3 by omega), decide_eq_true (show 0 + (k % 3).toNat * 1 < 3 by omega)]
    have h3 : k % 3 = 0 ∨ k % 3 = 1 ∨ k % 3 = 2 := by omega
    rcases h3 with h | h | h <;> rw [h] <;> rfl
  · cases hv
def OQ : Orc := ors (ent i_order_Compare [] 0 sCmp) (ors (ent i_order_Key [] 0 sKey) (ors (ent i_order_Less [] 0 sLess) (ors (ent i_order_Min [] 0 sMin) (ent i_order_Max [] 0 sMax))))
theorem okOQ : OrcOk PR OQ := ors_ok okCmp (ors_ok okKey (ors_ok okLess (ors_ok okMin okMax)))
theorem okKnown7 : OrcOk PR (ent i_anneallaw7_known [] 0 sTrue) := fn0 okOQ mixed p_anneallaw7_known (by kernel_rfl) (by kernel_rfl) (by kernel_rfl) fun l hc r h' hv ho hh => by
  unfold sTrue at hv
  split at hv
  · obtain ⟨rfl, rfl⟩ := Tr.ret_val hv
    kernel_rfl
  · cases hv
def O7 : Orc := ors (ent i_anneallaw7_known [] 0 sTrue) (ors (ent i_anneallaw7_form [] 0 sForm7) (ors (ent i_annealseat_Num [] 0 sNum) (ors OQ (ors (ent i_annealref1_Compare [] 0 sCmp) (ors (ent i_annealref1_Less [] 0 sLess) (ors (ent i_annealref1_Min [] 0 sMin) (ors (ent i_annealref1_Max [] 0 sMax) (ors (ent i_annealref1_Key [] 0 sKey) (ors (ent i_annealref1_Nan [] 0 sNan) (ors (ent i_annealref1_Mask [] 0 sMask) (ors (ent i_annealref1_Finite [] 0 sFin) (ors (ent i_annealref1_Class [] 0 sClass) (ors (ent i_annealref1_Inf [] 0 sInf) (ent i_annealref1_Zero [] 0 sZero))))))))))))))
theorem okO7 : OrcOk PR O7 := ors_ok okKnown7 (ors_ok okForm7 (ors_ok okNum (ors_ok okOQ (ors_ok okCmpR (ors_ok okLessR (ors_ok okMinR (ors_ok okMaxR (ors_ok okKeyR (ors_ok okNanR (ors_ok okMaskR (ors_ok okFinR (ors_ok okClassR (ors_ok okInfR okZeroR)))))))))))))
end Go.Proofs.Ytcpicekmnkjceaa.VI
