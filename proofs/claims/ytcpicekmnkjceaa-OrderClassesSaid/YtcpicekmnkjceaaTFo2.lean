import Derived.Test.YtcpicekmnkjceaaTFo1
namespace Go.Proofs.Ytcpicekmnkjceaa.VI
set_option linter.unusedVariables false
set_option linter.unusedSimpArgs false
set_option maxRecDepth 100000
set_option linter.unusedSimpArgs false
set_option linter.unusedVariables false
def rc (c : Int) (o : Bool) : Option (V × Heap) := some (.tup [.i .i64 c, .b o], [])
def cT (f a b : Int) : Option (V × Heap) := bif decide (ky f a < ky f b) then rc (-1) true else bif decide (ky f a > ky f b) then rc 1 true else rc 0 true
def cZ (f a b : Int) : Option (V × Heap) := bif zr f a then bif zr f b then rc 0 true else cT f a b else cT f a b
theorem cZ_eq (f a b : Int) (h : (nan f a || nan f b) = false) : cZ f a b = rc (cmp f a b).1 (cmp f a b).2 := by
  unfold cZ cT cmp
  rw [if_neg (by rw [h]; decide)]
  simp only [bifD]
  cases zr f a <;> cases zr f b <;> simp only [cond_true, cond_false, Bool.and_self, Bool.and_true, Bool.and_false, Bool.false_and, if_true, Bool.false_eq_true, if_false] <;> (repeat' split) <;> first | rfl | (exfalso; omega)
def OK1 : Orc := ors OK0 (ent i_order_Key [] 0 sKey)
theorem okOK1 : OrcOk PR OK1 := ors_ok okOK0 okKey
theorem okCmp : OrcOk PR (ent i_order_Compare [] 0 sCmp) := fn0 okOK1 mixed p_order_Compare (by kernel_rfl) (by kernel_rfl) (by kernel_rfl) fun l hc r h' hv ho hh => by
  unfold sCmp at hv
  split at hv
  · rename_i f a b
    obtain ⟨rfl, rfl⟩ := Tr.ret_val hv
    have : run0 PR OK1 f_order_Compare [.i .i64 f, .i .u32 a, .i .u32 b] [] = bif nan f a then rc 0 false else bif nan f b then rc 0 false else cZ f a b := by kernel_rfl
    rw [this]
    cases h1 : nan f a with
    | true => rw [cond_true]; unfold cmp; rw [h1]; rfl
    | false =>
      cases h2 : nan f b with
      | true => rw [cond_false, cond_true]; unfold cmp; rw [h1, h2]; rfl
      | false => rw [cond_false, cond_false, cZ_eq _ _ _ (by rw [h1, h2]; rfl)]; rfl
  · cases hv
theorem okLess : OrcOk PR (ent i_order_Less [] 0 sLess) := fn0 okCmp mixed p_order_Less (by kernel_rfl) (by kernel_rfl) (by kernel_rfl) fun l hc r h' hv ho hh => by
  have hv2 := hv
  unfold sLess at hv
  split at hv
  · rename_i f a b
    have : run0 PR (ent i_order_Compare [] 0 sCmp) f_order_Less [.i .i64 f, .i .u32 a, .i .u32 b] [] = (sLess [.i .i64 f, .i .u32 a, .i .u32 b] []).val := by kernel_rfl
    exact this.trans hv2
  · cases hv
def mk (f a : Int) : Option (V × Heap) := ri .u32 (bits .and .u32 a (2 * TT f - 1))
def pT (f a b : Int) (t : Bool) : Option (V × Heap) := bif nan f a then mk f b else bif nan f b then mk f a else bif t then mk f a else mk f b
theorem okPick : OrcOk PR (ent i_order_pick [] 0 sPick) := fn0 okOK1 mixed p_order_pick (by kernel_rfl) (by kernel_rfl) (by kernel_rfl) fun l hc r h' hv ho hh => by
  unfold sPick at hv
  split at hv
  · rename_i f a b t
    obtain ⟨rfl, rfl⟩ := Tr.ret_val hv
    have : run0 PR OK1 f_order_pick [.i .i64 f, .i .u32 a, .i .u32 b, .b t] [] = bif nan f a then bif nan f b then ri .u32 ((RR f - 1) * BB f + BB f / 2) else pT f a b t else pT f a b t := by kernel_rfl
    rw [this]
    have ha : 0 ≤ a ∧ a ≤ 4294967295 := ho.2.1
    have hb : 0 ≤ b ∧ b ≤ 4294967295 := ho.2.2.1
    unfold pT mk pck IN
    rw [masked f a ha.1 (by omega), masked f b hb.1 (by omega)]
    cases nan f a <;> cases nan f b <;> cases t <;> rfl
  · cases hv
def OK2 : Orc := ors OK1 (ent i_order_pick [] 0 sPick)
theorem okOK2 : OrcOk PR OK2 := ors_ok okOK1 okPick
theorem okMin : OrcOk PR (ent i_order_Min [] 0 sMin) := fn0 okOK2 mixed p_order_Min (by kernel_rfl) (by kernel_rfl) (by kernel_rfl) fun l hc r h' hv ho hh => by
  have hv2 := hv
  unfold sMin at hv
  split at hv
  · rename_i f a b
    have : run0 PR OK2 f_order_Min [.i .i64 f, .i .u32 a, .i .u32 b] [] = (sMin [.i .i64 f, .i .u32 a, .i .u32 b] []).val := by kernel_rfl
    exact this.trans hv2
  · cases hv
theorem okMax : OrcOk PR (ent i_order_Max [] 0 sMax) := fn0 okOK2 mixed p_order_Max (by kernel_rfl) (by kernel_rfl) (by kernel_rfl) fun l hc r h' hv ho hh => by
  have hv2 := hv
  unfold sMax at hv
  split at hv
  · rename_i f a b
    have : run0 PR OK2 f_order_Max [.i .i64 f, .i .u32 a, .i .u32 b] [] = (sMax [.i .i64 f, .i .u32 a, .i .u32 b] []).val := by kernel_rfl
    exact this.trans hv2
  · cases hv
end Go.Proofs.Ytcpicekmnkjceaa.VI
