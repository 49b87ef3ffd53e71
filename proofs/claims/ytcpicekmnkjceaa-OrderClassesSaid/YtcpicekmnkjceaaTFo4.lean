import Derived.Test.YtcpicekmnkjceaaTFo3
namespace Go.Proofs.Ytcpicekmnkjceaa.VI
set_option linter.unusedVariables false
set_option linter.unusedSimpArgs false
set_option maxRecDepth 100000
set_option linter.unusedSimpArgs false
set_option linter.unusedVariables false
def OM1 : Orc := ors OM0 (ent i_annealref1_Key [] 0 sKey)
theorem okOM1 : OrcOk PR OM1 := ors_ok okOM0 okKeyR
theorem okCmpR : OrcOk PR (ent i_annealref1_Compare [] 0 sCmp) := fn0 okOM1 mixed p_annealref1_Compare (by kernel_rfl) (by kernel_rfl) (by kernel_rfl) fun l hc r h' hv ho hh => by
  unfold sCmp at hv
  split at hv
  · rename_i f a b
    obtain ⟨rfl, rfl⟩ := Tr.ret_val hv
    have : run0 PR OM1 f_annealref1_Compare [.i .i64 f, .i .u32 a, .i .u32 b] [] = bif nan f a || nan f b then rc 0 false else cZ f a b := by kernel_rfl
    rw [this]
    cases h : nan f a || nan f b with
    | true => unfold cmp; rw [h]; rfl
    | false => rw [cond_false, cZ_eq _ _ _ h]; rfl
  · cases hv
theorem okLessR : OrcOk PR (ent i_annealref1_Less [] 0 sLess) := fn0 okCmpR mixed p_annealref1_Less (by kernel_rfl) (by kernel_rfl) (by kernel_rfl) fun l hc r h' hv ho hh => by
  unfold sLess at hv
  split at hv
  · rename_i f a b
    obtain ⟨rfl, rfl⟩ := Tr.ret_val hv
    have : run0 PR (ent i_annealref1_Compare [] 0 sCmp) f_annealref1_Less [.i .i64 f, .i .u32 a, .i .u32 b] [] = bif (cmp f a b).2 then some (.b (decide ((cmp f a b).1 < 0)), []) else some (.b false, []) := by kernel_rfl
    rw [this]
    unfold lt
    cases h : (cmp f a b).2 with
    | true => rfl
    | false =>
      have : (cmp f a b).1 = 0 := by
        revert h
        unfold cmp
        (repeat' split) <;> simp
      rw [this]; rfl
  · cases hv
def pR (f a b : Int) (t : Bool) : Option (V × Heap) := bif nan f a then mk f b else bif !nan f b then bif !t then mk f b else mk f a else mk f a
theorem okPickR : OrcOk PR (ent i_annealref1_pick [] 0 sPick) := fn0 okOM1 mixed p_annealref1_pick (by kernel_rfl) (by kernel_rfl) (by kernel_rfl) fun l hc r h' hv ho hh => by
  unfold sPick at hv
  split at hv
  · rename_i f a b t
    obtain ⟨rfl, rfl⟩ := Tr.ret_val hv
    have : run0 PR OM1 f_annealref1_pick [.i .i64 f, .i .u32 a, .i .u32 b, .b t] [] = bif nan f a then bif nan f b then ri .u32 ((RR f - 1) * BB f + BB f / 2) else pR f a b t else pR f a b t := by kernel_rfl
    rw [this]
    have ha : 0 ≤ a ∧ a ≤ 4294967295 := ho.2.1
    have hb : 0 ≤ b ∧ b ≤ 4294967295 := ho.2.2.1
    unfold pR mk pck IN
    rw [masked f a ha.1 (by omega), masked f b hb.1 (by omega)]
    cases nan f a <;> cases nan f b <;> cases t <;> rfl
  · cases hv
theorem ky_inj (f a b : Int) (ha : 0 ≤ a) (hb : 0 ≤ b) (h : ky f a = ky f b) : a % (2 * TT f) = b % (2 * TT f) := by
  have h1 := mod_bd f a
  have h2 := mod_bd f b
  have s1 := sg_iff f a ha
  have s2 := sg_iff f b hb
  have b1 : 0 ≤ a % TT f := Int.emod_nonneg _ (by rcases TT_cases f with h | h <;> rw [h] <;> decide)
  have b2 : 0 ≤ b % TT f := Int.emod_nonneg _ (by rcases TT_cases f with h | h <;> rw [h] <;> decide)
  unfold ky at h
  by_cases p : TT f ≤ a % (2 * TT f) <;> by_cases q : TT f ≤ b % (2 * TT f)
  · rw [if_pos (s1.2 p), if_pos (s2.2 q)] at h; have := h1.2.2.1 p; have := h2.2.2.1 q; omega
  · rw [if_pos (s1.2 p), if_neg (fun z => q (s2.1 z))] at h; omega
  · rw [if_neg (fun z => p (s1.1 z)), if_pos (s2.2 q)] at h; omega
  · rw [if_neg (fun z => p (s1.1 z)), if_neg (fun z => q (s2.1 z))] at h; have := h1.2.2.2 (by omega); have := h2.2.2.2 (by omega); omega
theorem pck_le (f a b : Int) (ha : 0 ≤ a) (hb : 0 ≤ b) : pck f a b (decide (ky f a ≤ ky f b)) = pck f a b (decide (ky f a < ky f b)) := by
  by_cases h : ky f a = ky f b
  · have := ky_inj f a b ha hb h
    unfold pck
    rw [this]
    (repeat' split) <;> rfl
  · rw [show decide (ky f a ≤ ky f b) = decide (ky f a < ky f b) from decide_eq_decide.2 (by omega)]
theorem pck_ge (f a b : Int) (ha : 0 ≤ a) (hb : 0 ≤ b) : pck f a b (decide (ky f a ≥ ky f b)) = pck f a b (decide (ky f a > ky f b)) := by
  by_cases h : ky f a = ky f b
  · have := ky_inj f a b ha hb h
    unfold pck
    rw [this]
    (repeat' split) <;> rfl
  · rw [show decide (ky f a ≥ ky f b) = decide (ky f a > ky f b) from decide_eq_decide.2 (by omega)]
def OM2 : Orc := ors OM1 (ent i_annealref1_pick [] 0 sPick)
theorem okOM2 : OrcOk PR OM2 := ors_ok okOM1 okPickR
theorem okMinR : OrcOk PR (ent i_annealref1_Min [] 0 sMin) := fn0 okOM2 mixed p_annealref1_Min (by kernel_rfl) (by kernel_rfl) (by kernel_rfl) fun l hc r h' hv ho hh => by
  unfold sMin at hv
  split at hv
  · rename_i f a b
    obtain ⟨rfl, rfl⟩ := Tr.ret_val hv
    have : run0 PR OM2 f_annealref1_Min [.i .i64 f, .i .u32 a, .i .u32 b] [] = ri .u32 (pck f a b (decide (ky f a ≤ ky f b))) := by kernel_rfl
    rw [this, pck_le f a b ho.2.1.1 ho.2.2.1.1]; rfl
  · cases hv
theorem okMaxR : OrcOk PR (ent i_annealref1_Max [] 0 sMax) := fn0 okOM2 mixed p_annealref1_Max (by kernel_rfl) (by kernel_rfl) (by kernel_rfl) fun l hc r h' hv ho hh => by
  unfold sMax at hv
  split at hv
  · rename_i f a b
    obtain ⟨rfl, rfl⟩ := Tr.ret_val hv
    have : run0 PR OM2 f_annealref1_Max [.i .i64 f, .i .u32 a, .i .u32 b] [] = ri .u32 (pck f a b (decide (ky f a ≥ ky f b))) := by kernel_rfl
    rw [this, pck_ge f a b ho.2.1.1 ho.2.2.1.1]; rfl
  · cases hv
end Go.Proofs.Ytcpicekmnkjceaa.VI
