import Derived.Test.YtcpicekmnkjceaaTFm6
namespace Go.Proofs.Ytcpicekmnkjceaa.VI
set_option linter.unusedVariables false
set_option linter.unusedSimpArgs false
set_option maxRecDepth 100000
set_option linter.unusedSimpArgs false
set_option linter.unusedVariables false
def sNeg (l : List V) (h : Heap) : Tr := match l, h with
  | [.i .i64 f, .i .u32 v], [] => .ret (.b (sg f v)) []
  | _, _ => .no
def sTurn (l : List V) (h : Heap) : Tr := match l, h with
  | [.i .i64 f, .i .u32 v], [] => .ret (.i .u32 (if sg f v then v % (2 * TT f) - TT f else v % (2 * TT f) + TT f)) []
  | _, _ => .no
def sKey (l : List V) (h : Heap) : Tr := match l, h with
  | [.i .i64 f, .i .u32 v], [] => .ret (.i .i64 (ky f v)) []
  | _, _ => .no
def sIsNan (l : List V) (h : Heap) : Tr := match l, h with
  | [.i .i64 f, .i .u32 v], [] => .ret (.b (nan f v)) []
  | _, _ => .no
def sIsZero (l : List V) (h : Heap) : Tr := match l, h with
  | [.i .i64 f, .i .u32 v], [] => .ret (.b (zr f v)) []
  | _, _ => .no
def sCmp (l : List V) (h : Heap) : Tr := match l, h with
  | [.i .i64 f, .i .u32 a, .i .u32 b], [] => .ret (.tup [.i .i64 (cmp f a b).1, .b (cmp f a b).2]) []
  | _, _ => .no
def sLess (l : List V) (h : Heap) : Tr := match l, h with
  | [.i .i64 f, .i .u32 a, .i .u32 b], [] => .ret (.b (lt f a b)) []
  | _, _ => .no
def sPick (l : List V) (h : Heap) : Tr := match l, h with
  | [.i .i64 f, .i .u32 a, .i .u32 b, .b t], [] => .ret (.i .u32 (pck f a b t)) []
  | _, _ => .no
def sMin (l : List V) (h : Heap) : Tr := match l, h with
  | [.i .i64 f, .i .u32 a, .i .u32 b], [] => .ret (.i .u32 (pck f a b (decide (ky f a < ky f b)))) []
  | _, _ => .no
def sMax (l : List V) (h : Heap) : Tr := match l, h with
  | [.i .i64 f, .i .u32 a, .i .u32 b], [] => .ret (.i .u32 (pck f a b (decide (ky f a > ky f b)))) []
  | _, _ => .no
theorem TT_cases (f : Int) : TT f = 32768 ∨ TT f = 2147483648 := by unfold TT; (repeat' split) <;> simp
theorem sg_iff (f v : Int) (h0 : 0 ≤ v) : sg f v = true ↔ TT f ≤ v % (2 * TT f) := by
  unfold sg
  rcases TT_cases f with h | h <;> rw [h] <;> simp <;> omega
theorem mod_bd (f v : Int) : 0 ≤ v % (2 * TT f) ∧ v % (2 * TT f) < 2 * TT f ∧ (TT f ≤ v % (2 * TT f) → v % TT f = v % (2 * TT f) - TT f) ∧ (v % (2 * TT f) < TT f → v % TT f = v % (2 * TT f)) := by
  rcases TT_cases f with h | h <;> rw [h] <;> omega
theorem okNeg : OrcOk PR (ent i_format_Neg [] 0 sNeg) := fn0 okOJ mixed p_format_Neg (by kernel_rfl) (by kernel_rfl) (by kernel_rfl) fun l hc r h' hv ho hh => by
  have hv2 := hv
  unfold sNeg at hv
  split at hv
  · rename_i f v
    have : run0 PR OJ f_format_Neg [.i .i64 f, .i .u32 v] [] = (sNeg [.i .i64 f, .i .u32 v] []).val := by kernel_rfl
    exact this.trans hv2
  · cases hv
theorem okTurn : OrcOk PR (ent i_format_Turn [] 0 sTurn) := fn0 okOJ mixed p_format_Turn (by kernel_rfl) (by kernel_rfl) (by kernel_rfl) fun l hc r h' hv ho hh => by
  unfold sTurn at hv
  split at hv
  · rename_i f v
    obtain ⟨rfl, rfl⟩ := Tr.ret_val hv
    have : run0 PR OJ f_format_Turn [.i .i64 f, .i .u32 v] [] = by3 f (ri .u32 (bits .xor .u32 (bits .and .u32 v (2 * TT f - 1)) 32768)) (ri .u32 (bits .xor .u32 (bits .and .u32 v (2 * TT f - 1)) 32768)) (ri .u32 (bits .xor .u32 (bits .and .u32 v (2 * TT f - 1)) 2147483648)) := by kernel_rfl
    rw [this]
    have hv : 0 ≤ v ∧ v ≤ 4294967295 := ho.2.1
    rw [masked f v hv.1 (by omega)]
    have hs := sg_iff f v hv.1
    have key : ∀ k : Nat, k < 32 → (2 : Int) ^ k = TT f → bits .xor .u32 (v % (2 * TT f)) (2 ^ k) = if sg f v then v % (2 * TT f) - TT f else v % (2 * TT f) + TT f := fun k hk he => by
      have ht := TT_cases f
      have hm := mod_bd f v
      rw [xor_top32 _ k hk hm.1 (by rw [he]; exact hm.2.1), he]
      by_cases h : sg f v = true
      · rw [if_pos h, if_neg (by have := hs.1 h; omega)]
      · rw [if_neg h, if_pos (by rcases Int.lt_or_le (v % (2 * TT f)) (TT f) with q | q; exact q; exact absurd (hs.2 q) h)]
    refine by3_of (fun h => ?_) (fun h => ?_) (fun h0 h1 => ?_)
    · subst h; have := key 15 (by decide) rfl; rw [show (32768 : Int) = 2 ^ 15 from rfl, this]; rfl
    · subst h; have := key 15 (by decide) rfl; rw [show (32768 : Int) = 2 ^ 15 from rfl, this]; rfl
    · obtain ⟨e1, e2, e3, _⟩ := oth h0 h1
      have := key 31 (by decide) (by rw [e3]; rfl)
      rw [show (2147483648 : Int) = 2 ^ 31 from rfl, this]; rfl
  · cases hv
theorem nan_eq (f v : Int) : decide (kl f v ≥ 4) = nan f v := by unfold nan; exact decide_eq_decide.2 (kl_nan f v)
theorem zr_eq (f v : Int) : (kl f v == 0) = zr f v := by
  unfold zr
  rw [Bool.eq_iff_iff]
  simpa using kl_zero f v
theorem okIsNan : OrcOk PR (ent i_format_IsNan [] 0 sIsNan) := fn0 okOJ mixed p_format_IsNan (by kernel_rfl) (by kernel_rfl) (by kernel_rfl) fun l hc r h' hv ho hh => by
  unfold sIsNan at hv
  split at hv
  · rename_i f v
    obtain ⟨rfl, rfl⟩ := Tr.ret_val hv
    have : run0 PR OJ f_format_IsNan [.i .i64 f, .i .u32 v] [] = some (.b (decide (kl f v ≥ 4)), []) := by kernel_rfl
    rw [this, nan_eq]
  · cases hv
theorem okIsZero : OrcOk PR (ent i_format_IsZero [] 0 sIsZero) := fn0 okOJ mixed p_format_IsZero (by kernel_rfl) (by kernel_rfl) (by kernel_rfl) fun l hc r h' hv ho hh => by
  unfold sIsZero at hv
  split at hv
  · rename_i f v
    obtain ⟨rfl, rfl⟩ := Tr.ret_val hv
    have : run0 PR OJ f_format_IsZero [.i .i64 f, .i .u32 v] [] = some (.b (kl f v == 0), []) := by kernel_rfl
    rw [this, zr_eq]
  · cases hv
def OK0 : Orc := ors (ent i_format_Mask [] 0 sMask) (ors (ent i_format_Neg [] 0 sNeg) (ors (ent i_format_Turn [] 0 sTurn) (ors (ent i_format_IsNan [] 0 sIsNan) (ors (ent i_format_IsZero [] 0 sIsZero) (ent i_format_Nan [] 0 sNan)))))
theorem okOK0 : OrcOk PR OK0 := ors_ok okMask (ors_ok okNeg (ors_ok okTurn (ors_ok okIsNan (ors_ok okIsZero okNan))))
theorem okKey : OrcOk PR (ent i_order_Key [] 0 sKey) := fn0 okOK0 mixed p_order_Key (by kernel_rfl) (by kernel_rfl) (by kernel_rfl) fun l hc r h' hv ho hh => by
  unfold sKey at hv
  split at hv
  · rename_i f v
    obtain ⟨rfl, rfl⟩ := Tr.ret_val hv
    have : run0 PR OK0 f_order_Key [.i .i64 f, .i .u32 v] [] = bif !sg f v then ri .i64 (IntKind.i64.wrap (bits .and .u32 v (2 * TT f - 1))) else ri .i64 (IntKind.i64.wrap (-1 - IntKind.i64.wrap (if sg f v = true then v % (2 * TT f) - TT f else v % (2 * TT f) + TT f))) := by kernel_rfl
    rw [this]
    have hv : 0 ≤ v ∧ v ≤ 4294967295 := ho.2.1
    rw [masked f v hv.1 (by omega)]
    have hs := sg_iff f v hv.1
    have ht := TT_cases f
    have hm := mod_bd f v
    unfold ky
    cases h : sg f v with
    | true =>
      have := hs.1 h
      simp only [Bool.not_true, cond_false, if_true]
      rw [w64_id (n := v % (2 * TT f) - TT f) (by omega), w64_id (by omega)]
      rw [hm.2.2.1 this]; rfl
    | false =>
      have h' : v % (2 * TT f) < TT f := by
        rcases Int.lt_or_le (v % (2 * TT f)) (TT f) with q | q
        · exact q
        · rw [hs.2 q] at h; cases h
      simp only [Bool.not_false, cond_true, Bool.false_eq_true, if_false]
      rw [w64_id (by omega), hm.2.2.2 h']; rfl
  · cases hv
end Go.Proofs.Ytcpicekmnkjceaa.VI
