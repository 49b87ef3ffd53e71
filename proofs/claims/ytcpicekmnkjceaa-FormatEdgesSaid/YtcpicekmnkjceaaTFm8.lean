import Derived.Test.YtcpicekmnkjceaaTFm6
namespace Go.Proofs.Ytcpicekmnkjceaa.VI
set_option linter.unusedVariables false
set_option linter.unusedSimpArgs false
set_option maxRecDepth 100000
set_option linter.unusedSimpArgs false
set_option linter.unusedVariables false
def sForm (l : List V) (h : Heap) : Tr := match l, h with
  | [.i .u8 k], [] => .ret (.i .i64 (k % 3)) []
  | _, _ => .no
theorem okForm2 : OrcOk PR (ent i_anneallaw2_form [] 0 sForm) := fn0 (orn_ok _) mixed p_anneallaw2_form (by kernel_rfl) (by kernel_rfl) (by kernel_rfl) fun l hc r h' hv ho hh => by
  unfold sForm at hv
  split at hv
  · rename_i k
    obtain ⟨rfl, rfl⟩ := Tr.ret_val hv
    have : run0 PR orn f_anneallaw2_form [.i .u8 k] [] = gud (decide (0 ≤ k.tmod 3 ∧ k.tmod 3 < 3)) (gud (decide (0 + (k.tmod 3).toNat * 1 < 3)) (ri .i64 (([0, 1, 2] : List Int).getD (0 + (k.tmod 3).toNat * 1) 0))) := by kernel_rfl
    rw [this]
    have hk : 0 ≤ k ∧ k ≤ 255 := ho.1
    have hm : k.tmod 3 = k % 3 := Int.tmod_eq_emod_of_nonneg hk.1
    rw [hm, decide_eq_true (show 0 ≤ k % 3 ∧ k % 3 < 3 by omega), decide_eq_true (show 0 + (k % 3).toNat * 1 < 3 by omega)]
    have h3 : k % 3 = 0 ∨ k % 3 = 1 ∨ k % 3 = 2 := by omega
    rcases h3 with h | h | h <;> rw [h] <;> rfl
  · cases hv
def Iv (f : Int) (b : Bool) : Int := (RR f - 1) * BB f + if b then TT f else 0
def Gv (f : Int) (b : Bool) : Int := (RR f - 1) * BB f - 1 + if b then TT f else 0
def Zv (f : Int) (b : Bool) : Int := if b then TT f else 0
def Wv (f : Int) : Int := IntKind.u32.wrap (IntKind.u32.wrap (1 * 2 ^ min (MM f).toNat 32) - 1)
def yv (f : Int) (b : Bool) (v : Int) : Int := IntKind.u32.wrap (IntKind.u32.wrap (Iv f b + 1) + v.tmod (Wv f))
def R12 (f : Int) (b : Bool) (y : Int) : Option (V × Heap) := gud (decide (0 ≤ IntKind.i64.wrap (MM f - 1))) <| aud ((kl f y == 4) == (bits .and .u32 (y / 2 ^ min (IntKind.i64.wrap (MM f - 1)).toNat 32) 1 == 1)) <| aud (kl f (Zv f b) == 0) <| aud (kl f (IntKind.u32.wrap (Zv f b + 1)) == 1) <|
  aud (decide (ex f (Gv f b) < RR f - 1)) <| aud (!decide (ex f (Iv f b) < RR f - 1)) <| some (.b (!decide (ex f y < RR f - 1)), [])
def T12 (f : Int) (b : Bool) (v : Int) : Option (V × Heap) := gud (decide (0 ≤ MM f)) <| bif Wv f == 0 then none else gud (IntKind.u32.wrap (Gv f b + 1) == Iv f b) <| gud (kl f (Gv f b) == 2) <| gud (kl f (Iv f b) == 3) <|
  bif kl f (yv f b v) == 4 then R12 f b (yv f b v) else bif kl f (yv f b v) == 5 then R12 f b (yv f b v) else some (.b false, [])
def O12 : Orc := ors (ent i_anneallaw2_known [] 0 sTrue) (ors (ent i_anneallaw2_form [] 0 sForm) (ors (ent i_format_Widths [] 0 sWid1) O2))
theorem okO12 : OrcOk PR O12 := ors_ok okKnown2 (ors_ok okForm2 (ors_ok okWid1 okO2))
theorem run12 (k v : Int) (b : Bool) : run0 PR O12 f_anneallaw2_FormatEdges [.i .u8 k, .b b, .i .u32 v] [] = T12 (k % 3) b v := by kernel_rfl
theorem R12_eq {f : Int} {b : Bool} {y : Int} (h1 : decide (0 ≤ IntKind.i64.wrap (MM f - 1)) = true) (h2 : ((kl f y == 4) == (bits .and .u32 (y / 2 ^ min (IntKind.i64.wrap (MM f - 1)).toNat 32) 1 == 1)) = true) (h3 : (kl f (Zv f b) == 0) = true) (h4 : (kl f (IntKind.u32.wrap (Zv f b + 1)) == 1) = true)
    (h5 : decide (ex f (Gv f b) < RR f - 1) = true) (h6 : (!decide (ex f (Iv f b) < RR f - 1)) = true) (h7 : (!decide (ex f y < RR f - 1)) = true) : R12 f b y = some (.b true, []) := by
  unfold R12
  rw [h1, h2, h3, h4, h5, h6, h7]; rfl
theorem T12_eq {f : Int} {b : Bool} {v y : Int} (hy : yv f b v = y) (a0 : decide (0 ≤ MM f) = true) (a1 : (Wv f == 0) = false) (a2 : (IntKind.u32.wrap (Gv f b + 1) == Iv f b) = true) (a3 : (kl f (Gv f b) == 2) = true) (a4 : (kl f (Iv f b) == 3) = true) (a5 : kl f y = 4 ∨ kl f y = 5)
    (h1 : decide (0 ≤ IntKind.i64.wrap (MM f - 1)) = true) (h2 : ((kl f y == 4) == (bits .and .u32 (y / 2 ^ min (IntKind.i64.wrap (MM f - 1)).toNat 32) 1 == 1)) = true) (h3 : (kl f (Zv f b) == 0) = true) (h4 : (kl f (IntKind.u32.wrap (Zv f b + 1)) == 1) = true)
    (h5 : decide (ex f (Gv f b) < RR f - 1) = true) (h6 : (!decide (ex f (Iv f b) < RR f - 1)) = true) (h7 : (!decide (ex f y < RR f - 1)) = true) : T12 f b v = some (.b true, []) := by
  unfold T12
  rw [hy, a0, a1, a2, a3, a4, R12_eq h1 h2 h3 h4 h5 h6 h7]
  simp only [gud, aud, cond_true, cond_false, bifI]
  rcases a5 with h | h <;> rw [h] <;> simp
theorem y_facts (f : Int) (b : Bool) (m q : Int) (hf : f = 0 ∨ f = 1 ∨ f = 2) (m0 : 0 ≤ m) (m1 : m < BB f - 1) (hq : q = BB f / 2) : (kl f (Iv f b + 1 + m) = 4 ∨ kl f (Iv f b + 1 + m) = 5) ∧ ((kl f (Iv f b + 1 + m) = 4) ↔ (Iv f b + 1 + m) / q % 2 = 1) ∧ ¬ ex f (Iv f b + 1 + m) < RR f - 1 := by
  subst hq
  have hex : ex f (Iv f b + 1 + m) = RR f - 1 := by
    rcases hf with rfl | rfl | rfl <;> cases b <;> simp [ex, Iv, RR, BB, TT] at m1 ⊢ <;> omega
  have hff : ff f (Iv f b + 1 + m) = 1 + m := by
    rcases hf with rfl | rfl | rfl <;> cases b <;> simp [ff, Iv, RR, BB, TT] at m1 ⊢ <;> omega
  have hr : RR f - 1 ≠ 0 := by rcases hf with rfl | rfl | rfl <;> decide
  have hk : kl f (Iv f b + 1 + m) = if (1 + m) / (BB f / 2) = 1 then 4 else 5 := by
    unfold kl
    rw [hex, hff, if_neg hr, if_neg (by omega), if_neg (by omega)]
  refine ⟨?_, ?_, by omega⟩
  · rw [hk]; split <;> simp
  · rw [hk]
    have : (1 + m) / (BB f / 2) = 1 ↔ (Iv f b + 1 + m) / (BB f / 2) % 2 = 1 := by
      rcases hf with rfl | rfl | rfl <;> cases b <;> simp [Iv, RR, BB, TT] at m1 ⊢ <;> omega
    rw [← this]
    split <;> simp_all
theorem plain12 (f : Int) (hf : f = 0 ∨ f = 1 ∨ f = 2) (b : Bool) (v : Int) (hv : 0 ≤ v ∧ v ≤ 4294967295) : T12 f b v = some (.b true, []) := by
  have hW : Wv f = BB f - 1 := by rcases hf with rfl | rfl | rfl <;> decide
  have hB : 0 < BB f - 1 := by rcases hf with rfl | rfl | rfl <;> decide
  have m0 := Int.tmod_nonneg (BB f - 1) hv.1
  have m1 := Int.tmod_lt_of_pos v hB
  have hy : yv f b v = Iv f b + 1 + v.tmod (BB f - 1) := by
    unfold yv
    rw [hW]
    generalize v.tmod (BB f - 1) = m at *
    rcases hf with rfl | rfl | rfl <;> cases b <;> simp [Iv, RR, BB, TT, IntKind.wrap, IntKind.signed, IntKind.bits] at m1 ⊢ <;> omega
  generalize v.tmod (BB f - 1) = m at *
  obtain ⟨y1, y2, y3⟩ := y_facts f b m (BB f / 2) hf m0 m1 rfl
  have yb : 0 ≤ Iv f b + 1 + m ∧ Iv f b + 1 + m < 4294967296 := by
    rcases hf with rfl | rfl | rfl <;> cases b <;> simp [Iv, RR, BB, TT] at m1 ⊢ <;> omega
  have hp : (2 : Int) ^ min (IntKind.i64.wrap (MM f - 1)).toNat 32 = BB f / 2 := by rcases hf with rfl | rfl | rfl <;> decide
  have hq : 0 < BB f / 2 := by rcases hf with rfl | rfl | rfl <;> decide
  have hd0 : 0 ≤ (Iv f b + 1 + m) / (BB f / 2) := Int.ediv_nonneg yb.1 (by omega)
  have hd1 : (Iv f b + 1 + m) / (BB f / 2) < 4294967296 := Int.lt_of_le_of_lt (Int.ediv_le_self _ yb.1) yb.2
  have c2 : ((kl f (Iv f b + 1 + m) == 4) == (bits .and .u32 ((Iv f b + 1 + m) / 2 ^ min (IntKind.i64.wrap (MM f - 1)).toNat 32) 1 == 1)) = true := by
    rw [hp, a1 _ hd0 hd1, beq_iff_eq, Bool.eq_iff_iff]
    simpa using y2
  refine T12_eq hy ?_ ?_ ?_ ?_ ?_ y1 ?_ c2 ?_ ?_ ?_ ?_ (by simpa using y3)
  all_goals rcases hf with rfl | rfl | rfl <;> cases b <;> decide
theorem call12 : ∀ l, args [.i .u8, .b, .i .u32] l → oks l → CallOk PR i_anneallaw2_FormatEdges l [] fun r _ => r = .b true := by
  rintro l ⟨c0, l, ⟨k, hk, h0⟩, ⟨c1, l, ⟨b, h1⟩, ⟨c2, l, ⟨v, hv, h2⟩, rfl, rfl⟩, rfl⟩, rfl⟩ ho
  injection h0 with h0; injection h1 with h1; injection h2 with h2; subst h0 h1 h2
  have hk : 0 ≤ k ∧ k ≤ 255 := hk
  exact (run_fn (hc := []) (kp := false) (L := run0.L00) okO12 mixed p_anneallaw2_FormatEdges (by kernel_rfl) (by kernel_rfl) (loopsOk0 (by kernel_rfl)) (r := .b true) (h' := []) fun _ _ => (run12 k v b).trans (plain12 _ (by omega) b v hv)).mono fun q _ h => h.1
end Go.Proofs.Ytcpicekmnkjceaa.VI
