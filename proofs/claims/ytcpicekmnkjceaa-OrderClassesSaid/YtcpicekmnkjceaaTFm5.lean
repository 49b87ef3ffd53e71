import Derived.Test.YtcpicekmnkjceaaTFm4
namespace Go.Proofs.Ytcpicekmnkjceaa.VI
set_option linter.unusedVariables false
set_option linter.unusedSimpArgs false
set_option maxRecDepth 100000
set_option linter.unusedSimpArgs false
set_option linter.unusedVariables false
def numL (f k : Int) : List Int := if f = 0 then [0, 1, 1023, 1024, 15360, 15361, 15359, 16384, IntKind.u32.wrap (15360 + (k / 16).tmod 3072), 31743, 31744, 31745, 32256, IntKind.u32.wrap (15360 - (k / 16).tmod 9216), k / 16]
  else if f = 1 then [0, 1, 127, 128, 16256, 16257, 16255, 16384, IntKind.u32.wrap (16256 + (k / 16).tmod 384), 32639, 32640, 32641, 32704, IntKind.u32.wrap (16256 - (k / 16).tmod 1152), k / 16]
  else [0, 1, 8388607, 8388608, 1065353216, 1065353217, 1065353215, 1073741824, IntKind.u32.wrap (1065353216 + (k / 16).tmod 25165824), 2139095039, 2139095040, 2139095041, 2143289344, IntKind.u32.wrap (1065353216 - (k / 16).tmod 75497472), k / 16]
def numV (f k : Int) : Int := if k / 2147483648 = 1 then bits .or .u32 (bits .and .u32 ((numL f k).getD (k.tmod 15).toNat 0) (2 * TT f - 1)) (if true = true then TT f else 0) else bits .and .u32 ((numL f k).getD (k.tmod 15).toNat 0) (2 * TT f - 1)
def nT (L : List Int) (f k : Int) : Option (V × Heap) := gud (decide (0 ≤ k.tmod 15 ∧ k.tmod 15 < 15)) <| gud (decide (0 + (k.tmod 15).toNat * 1 < 15)) <|
  bif k / 2147483648 == 1 then ri .u32 (bits .or .u32 (bits .and .u32 (L.getD (0 + (k.tmod 15).toNat * 1) 0) (2 * TT f - 1)) (if true = true then TT f else 0)) else ri .u32 (bits .and .u32 (L.getD (0 + (k.tmod 15).toNat * 1) 0) (2 * TT f - 1))
def sNum (l : List V) (h : Heap) : Tr := match l, h with
  | [.i .i64 f, .i .u32 k], [] => .ret (.i .u32 (numV f k)) []
  | _, _ => .no
def OR5 : Orc := ors OR4 (ent i_annealref1_Zero [] 0 sZero)
theorem okOR5 : OrcOk PR OR5 := ors_ok okOR4 okZeroR
theorem runNum (f k : Int) : run0 PR OR5 f_annealseat_Num [.i .i64 f, .i .u32 k] [] = by3 f (nT (numL 0 k) f k) (nT (numL 1 k) f k) (nT (numL 2 k) f k) := by kernel_rfl
theorem okNum : OrcOk PR (ent i_annealseat_Num [] 0 sNum) := fn0 okOR5 mixed p_annealseat_Num (by kernel_rfl) (by kernel_rfl) (by kernel_rfl) fun l hc r h' hv ho hh => by
  unfold sNum at hv
  split at hv
  · rename_i f k
    obtain ⟨rfl, rfl⟩ := Tr.ret_val hv
    rw [runNum]
    have hk : 0 ≤ k ∧ k ≤ 4294967295 := ho.2.1
    have hm : k.tmod 15 = k % 15 := Int.tmod_eq_emod_of_nonneg hk.1
    have d1 : decide (0 ≤ k.tmod 15 ∧ k.tmod 15 < 15) = true := decide_eq_true (by omega)
    have d2 : decide (0 + (k.tmod 15).toNat * 1 < 15) = true := decide_eq_true (by omega)
    have e : ∀ L : List Int, L = numL f k → nT L f k = some (.i .u32 (numV f k), []) := by
      rintro L rfl
      unfold nT numV
      rw [d1, d2, show 0 + (k.tmod 15).toNat * 1 = (k.tmod 15).toNat by omega]
      simp only [gud, cond_true, bifI]
      by_cases h : k / 2147483648 = 1
      · simp only [if_pos h]; rfl
      · simp only [if_neg h]; rfl
    refine by3_of (fun h => e _ ?_) (fun h => e _ ?_) (fun h0 h1 => e _ ?_)
    · subst h; rfl
    · subst h; rfl
    · simp [numL, h0, h1]
  · cases hv
theorem num_bd (f k : Int) : 0 ≤ numV f k ∧ numV f k < 2 * TT f := by
  unfold numV
  split
  · exact or_top_bd f _
  · exact and_mask_bd f _
def O2 : Orc := ors (ent i_format_Widths [] 0 sWid) (ors (ent i_format_Unpack [] 0 sUnpack) (ors (ent i_format_Class [] 0 sClass) (ors (ent i_format_Nan [] 0 sNan) (ors (ent i_format_Finite [] 0 sFin) (ors (ent i_format_Mask [] 0 sMask) (ors (ent i_format_Zero [] 0 sZero) (ors (ent i_format_Inf [] 0 sInf) (ent i_format_Greatest [] 0 sGreat))))))))
theorem okO2 : OrcOk PR O2 := ors_ok okWid (ors_ok okUnpack (ors_ok okClass (ors_ok okNan (ors_ok okFin (ors_ok okMask (ors_ok okZero (ors_ok okInf okGreat)))))))
def sTrue (l : List V) (h : Heap) : Tr := match l, h with
  | [], [] => .ret (.b true) []
  | _, _ => .no
theorem okKnown2 : OrcOk PR (ent i_anneallaw2_known [] 0 sTrue) := fn0 okO2 mixed p_anneallaw2_known (by kernel_rfl) (by kernel_rfl) (by kernel_rfl) fun l hc r h' hv ho hh => by
  unfold sTrue at hv
  split at hv
  · obtain ⟨rfl, rfl⟩ := Tr.ret_val hv
    kernel_rfl
  · cases hv
end Go.Proofs.Ytcpicekmnkjceaa.VI
