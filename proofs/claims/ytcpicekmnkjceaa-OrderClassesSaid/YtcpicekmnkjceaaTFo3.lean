import Derived.Test.YtcpicekmnkjceaaTFo2
namespace Go.Proofs.Ytcpicekmnkjceaa.VI
set_option linter.unusedVariables false
set_option linter.unusedSimpArgs false
set_option maxRecDepth 100000
set_option linter.unusedSimpArgs false
set_option linter.unusedVariables false
def sNans (l : List V) (h : Heap) : Tr := match l, h with
  | [.i .i64 f, .si 1 .u32 [a]], [] => .ret (.tup [.b (nan f a), .b (kl f a == 5)]) []
  | [.i .i64 f, .si 2 .u32 [a, b]], [] => .ret (.tup [.b (nan f a || nan f b), .b (kl f a == 5 || kl f b == 5)]) []
  | _, _ => .no
theorem nan_kl (f v : Int) : nan f v = (kl f v == 4 || kl f v == 5) := by
  have h := kl_nan f v
  have : 0 ≤ kl f v ∧ kl f v ≤ 5 := by unfold kl; (repeat' split) <;> omega
  unfold nan
  rw [Bool.eq_iff_iff]
  simp only [decide_eq_true_eq, Bool.or_eq_true, beq_iff_eq]
  rw [← h]; omega
def rbb (a b : Bool) : Option (V × Heap) := some (.tup [.b a, .b b], [])
def L91 : Lps := fun _ _ => .un 4 [0, 1, 6, 7, 8]
theorem okNans : OrcOk PR (ent i_annealref1_nans [] 0 sNans) := fn_ok okClassR mixed (L := L91) (kp := false) p_annealref1_nans (by kernel_rfl) (by kernel_rfl) fun l hc r h' hv ho hh => by
  refine ⟨loopsOk0 (by kernel_rfl), ?_⟩
  unfold sNans at hv
  split at hv
  · rename_i f a
    obtain ⟨rfl, rfl⟩ := Tr.ret_val hv
    have : runk PR (ent i_annealref1_Class [] 0 sClass) L91 false f_annealref1_nans (f_annealref1_nans.body.getD .skip) [.i .i64 f, .si 1 .u32 [a]] [] (fun r h => some (r, h)) = bif kl f a == 4 then rbb true (kl f a == 5) else rbb (kl f a == 5) (kl f a == 5) := by kernel_rfl
    rw [this, nan_kl]
    cases kl f a == 4 <;> rfl
  · rename_i f a b
    obtain ⟨rfl, rfl⟩ := Tr.ret_val hv
    have : runk PR (ent i_annealref1_Class [] 0 sClass) L91 false f_annealref1_nans (f_annealref1_nans.body.getD .skip) [.i .i64 f, .si 2 .u32 [a, b]] [] (fun r h => some (r, h)) =
      bif kl f a == 4 then bif kl f a == 5 then rbb true true else rbb true (kl f b == 5)
      else bif kl f a == 5 then bif kl f a == 5 then rbb true true else rbb true (kl f b == 5)
      else bif kl f b == 4 then bif kl f a == 5 then rbb true true else rbb true (kl f b == 5)
      else bif kl f a == 5 then rbb (kl f b == 5) true else rbb (kl f b == 5) (kl f b == 5) := by kernel_rfl
    rw [this, nan_kl, nan_kl]
    cases kl f a == 4 <;> cases kl f a == 5 <;> cases kl f b == 4 <;> cases kl f b == 5 <;> rfl
  · cases hv
theorem okIsZeroR : OrcOk PR (ent i_annealref1_zero [] 0 sIsZero) := fn0 okOR3 mixed p_annealref1_zero (by kernel_rfl) (by kernel_rfl) (by kernel_rfl) fun l hc r h' hv ho hh => by
  unfold sIsZero at hv
  split at hv
  · rename_i f v
    obtain ⟨rfl, rfl⟩ := Tr.ret_val hv
    have : run0 PR OR3 f_annealref1_zero [.i .i64 f, .i .u32 v] [] = some (.b (kl f v == 0), []) := by kernel_rfl
    rw [this, zr_eq]
  · cases hv
theorem okNegR : OrcOk PR (ent i_annealref1_neg [] 0 sNeg) := fn0 okOR3 mixed p_annealref1_neg (by kernel_rfl) (by kernel_rfl) (by kernel_rfl) fun l hc r h' hv ho hh => by
  have hv2 := hv
  unfold sNeg at hv
  split at hv
  · rename_i f v
    have : run0 PR OR3 f_annealref1_neg [.i .i64 f, .i .u32 v] [] = (sNeg [.i .i64 f, .i .u32 v] []).val := by kernel_rfl
    exact this.trans hv2
  · cases hv
theorem andNot_top (y : Int) (k : Nat) (hk : k < 32) (h0 : 0 ≤ y) (h1 : y < 2 * 2 ^ k) : bits .andNot .u32 y (2 ^ k) = y % 2 ^ k := by
  obtain ⟨a, rfl⟩ := Int.eq_ofNat_of_zero_le h0
  have hp : ((2 : Int) ^ k) = ((2 ^ k : Nat) : Int) := by push_cast; rfl
  rw [hp] at h1 ⊢
  have h2 : 2 ^ k < 4294967296 := Nat.lt_of_lt_of_le (Nat.pow_lt_pow_right (by decide) hk) (by decide)
  have h32 : 2 * 2 ^ k ≤ 4294967296 := by have := Nat.pow_le_pow_right (show 2 > 0 by decide) (show k + 1 ≤ 32 from hk); rw [Nat.pow_succ] at this; omega
  have ha : a < 4294967296 := by omega
  unfold bits
  simp only [ofInt_nat]
  have : (BitVec.ofNat IntKind.u32.bits a &&& ~~~BitVec.ofNat IntKind.u32.bits (2 ^ k)).toNat = a % 2 ^ k := by
    apply Nat.eq_of_testBit_eq
    intro i
    rw [show IntKind.u32.bits = 32 from rfl, BitVec.testBit_toNat, BitVec.getLsbD_and, BitVec.getLsbD_not, BitVec.getLsbD_ofNat, BitVec.getLsbD_ofNat, Nat.testBit_mod_two_pow, Nat.testBit_two_pow]
    by_cases hi : i < k
    · have : ¬ k = i := by omega
      simp [hi, this, show i < 32 by omega]
    · by_cases he : k = i
      · subst he; simp
      · have : a.testBit i = false := Nat.testBit_lt_two_pow (Nat.lt_of_lt_of_le (show a < 2 ^ (k + 1) by rw [Nat.pow_succ]; omega) (Nat.pow_le_pow_right (by decide) (by omega)))
        simp [hi, this]
  rw [this]
  have hlt : a % 2 ^ k < 4294967296 := Nat.lt_of_le_of_lt (Nat.mod_le _ _) ha
  rw [wrap_nat (k := .u32) rfl hlt]
  push_cast; rfl
def OM0 : Orc := ors (ent i_annealref1_Mask [] 0 sMask) (ors (ent i_annealref1_neg [] 0 sNeg) (ors (ent i_annealref1_sign [] 0 sZero) (ors (ent i_annealref1_Zero [] 0 sZero) (ors (ent i_annealref1_nans [] 0 sNans) (ors (ent i_annealref1_zero [] 0 sIsZero) (ent i_annealref1_Nan [] 0 sNan))))))
theorem okOM0 : OrcOk PR OM0 := ors_ok okMaskR (ors_ok okNegR (ors_ok okSignR (ors_ok okZeroR (ors_ok okNans (ors_ok okIsZeroR okNanR)))))
def anT (f v : Int) : Int := IntKind.i64.wrap (bits .andNot .u32 (bits .and .u32 v (2 * TT f - 1)) (if true = true then TT f else 0))
theorem okKeyR : OrcOk PR (ent i_annealref1_Key [] 0 sKey) := fn0 okOM0 mixed p_annealref1_Key (by kernel_rfl) (by kernel_rfl) (by kernel_rfl) fun l hc r h' hv ho hh => by
  unfold sKey at hv
  split at hv
  · rename_i f v
    obtain ⟨rfl, rfl⟩ := Tr.ret_val hv
    have : run0 PR OM0 f_annealref1_Key [.i .i64 f, .i .u32 v] [] = bif sg f v then ri .i64 (IntKind.i64.wrap (-1 - anT f v)) else ri .i64 (anT f v) := by kernel_rfl
    rw [this]
    have hv : 0 ≤ v ∧ v ≤ 4294967295 := ho.2.1
    have hm := mod_bd f v
    have hT : ∃ k : Nat, k < 32 ∧ (2 : Int) ^ k = TT f := by
      rcases TT_cases f with h | h
      · exact ⟨15, by decide, by rw [h]; rfl⟩
      · exact ⟨31, by decide, by rw [h]; rfl⟩
    obtain ⟨k, hk, hkT⟩ := hT
    have hb : 0 ≤ v % TT f ∧ v % TT f < 4294967296 := by rcases TT_cases f with h | h <;> rw [h] <;> omega
    have he : anT f v = v % TT f := by
      unfold anT
      rw [masked f v hv.1 (by omega), if_pos rfl, ← hkT, andNot_top _ k hk (by rw [hkT]; exact hm.1) (by rw [hkT]; exact hm.2.1), hkT]
      rw [show v % (2 * TT f) % TT f = v % TT f by rcases TT_cases f with h | h <;> rw [h] <;> omega]
      exact w64_id (by omega)
    rw [he, w64_id (n := -1 - v % TT f) (by omega)]
    unfold ky
    cases sg f v <;> rfl
  · cases hv
end Go.Proofs.Ytcpicekmnkjceaa.VI
