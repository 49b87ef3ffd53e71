import Derived.Test.YtcpicekmnkjceaaTFm3
namespace Go.Proofs.Ytcpicekmnkjceaa.VI
set_option linter.unusedVariables false
set_option linter.unusedSimpArgs false
set_option maxRecDepth 100000
set_option linter.unusedSimpArgs false
set_option linter.unusedVariables false
def OR2 : Orc := ors OR1 (ors (ent i_annealref1_parts [] 0 sPartsR) (ors (ent i_annealref1_Mask [] 0 sMask) (ors (ent i_annealref1_sign [] 0 sZero) (ent i_annealref1_bias [] 0 sBias))))
theorem okOR2 : OrcOk PR OR2 := ors_ok okWidR (ors_ok okPartsR (ors_ok okMaskR (ors_ok okSignR okBiasR)))
theorem okClassR : OrcOk PR (ent i_annealref1_Class [] 0 sClass) := fn0 okOR2 mixed p_annealref1_Class (by kernel_rfl) (by kernel_rfl) (by kernel_rfl) fun l hc r h' hv ho hh => by
  unfold sClass at hv
  split at hv
  · rename_i f v
    obtain ⟨rfl, rfl⟩ := Tr.ret_val hv
    have : run0 PR OR2 f_annealref1_Class [.i .i64 f, .i .u32 v] [] = by3 f (kT (ex f v) (ff f v) 31 512) (kT (ex f v) (ff f v) 255 64) (kT (ex f v) (ff f v) 255 4194304) := by kernel_rfl
    rw [this]
    simp only [kT_eq]
    refine by3_of (fun h => ?_) (fun h => ?_) (fun h0 h1 => ?_)
    · subst h; rfl
    · subst h; rfl
    · obtain ⟨e1, e2, e3, _⟩ := oth h0 h1
      unfold kl; rw [e1, e2]; rfl
  · cases hv
def OR3 : Orc := ors OR2 (ent i_annealref1_Class [] 0 sClass)
theorem okOR3 : OrcOk PR OR3 := ors_ok okOR2 okClassR
theorem kl_cases (f v : Int) : (ex f v = 0 ∧ ff f v = 0 ∧ kl f v = 0) ∨ (ex f v = 0 ∧ ff f v ≠ 0 ∧ kl f v = 1) ∨ (0 < ex f v ∧ ex f v < RR f - 1 ∧ kl f v = 2) ∨ (ex f v = RR f - 1 ∧ 3 ≤ kl f v) := by
  have h := ex_bd f v
  have hr : RR f = 32 ∨ RR f = 256 := by unfold RR; split <;> simp
  unfold kl
  (repeat' split) <;> omega
def uR (s : Bool) (c e m l w b : Int) : Option (V × Heap) :=
  bif c == 2 then ru s (IntKind.i64.wrap (IntKind.i64.wrap (e - (1 - l)) - w)) (bits .or .u64 m b)
  else bif c == 0 then ru s (IntKind.i64.wrap (IntKind.i64.wrap (1 - (1 - l)) - w)) m
  else bif c == 1 then ru s (IntKind.i64.wrap (IntKind.i64.wrap (1 - (1 - l)) - w)) m
  else ru s 0 0
theorem uR_eq (s : Bool) (c e m l w : Int) (k : Nat) (hk : k ≤ 62) (he : 0 ≤ e ∧ e < 1000) (hm : 0 ≤ m ∧ m < 2 ^ k) (hl : -1000 < l ∧ l < 1000) (hw : 0 ≤ w ∧ w < 1000) (b : Int) (hb : b = 2 ^ k) :
    uR s c e m l w b = ru s (if c = 2 then e - 1 + l - w else if c = 0 ∨ c = 1 then l - w else 0) (if c = 2 then m + 2 ^ k else if c = 0 ∨ c = 1 then m else 0) := by
  subst hb
  have hp : (2 : Int) ^ k ≤ 4611686018427387904 := by
    have : (2 : Nat) ^ k ≤ 2 ^ 62 := Nat.pow_le_pow_right (by omega) hk
    have h3 : ((2 ^ k : Nat) : Int) ≤ ((2 ^ 62 : Nat) : Int) := by exact_mod_cast this
    simpa using h3
  have hp0 : (0 : Int) < 2 ^ k := Int.pow_pos (by decide)
  unfold uR
  rw [w64_id (n := e - (1 - l)) (by omega), w64_id (n := 1 - (1 - l)) (by omega), w64_id (n := e - (1 - l) - w) (by omega), w64_id (n := 1 - (1 - l) - w) (by omega), or_comm64, or_join64 (2 ^ k) m k (by omega) (by omega) hm.1 hm.2 (by omega) (by simp)]
  simp only [bifI]
  have e1 : e - (1 - l) - w = e - 1 + l - w := by omega
  have e2 : 1 - (1 - l) - w = l - w := by omega
  rw [e1, e2, Int.add_comm (2 ^ k)]
  by_cases h2 : c = 2
  · simp only [if_pos h2]
  · by_cases h0 : c = 0
    · subst h0; simp
    · by_cases h1 : c = 1
      · subst h1; simp
      · simp only [if_neg h2, if_neg h0, if_neg h1, h0, h1, or_self, if_false]
theorem okUnpackR : OrcOk PR (ent i_annealref1_Unpack [] 0 sUnpack) := fn0 okOR3 mixed p_annealref1_Unpack (by kernel_rfl) (by kernel_rfl) (by kernel_rfl) fun l hc r h' hv ho hh => by
  unfold sUnpack at hv
  split at hv
  · rename_i f v
    obtain ⟨rfl, rfl⟩ := Tr.ret_val hv
    have : run0 PR OR3 f_annealref1_Unpack [.i .i64 f, .i .u32 v] [] = by3 f (uR (sg f v) (kl f v) (ex f v) (ff f v) (le f) 10 1024) (uR (sg f v) (kl f v) (ex f v) (ff f v) (le f) 7 128) (uR (sg f v) (kl f v) (ex f v) (ff f v) (le f) 23 8388608) := by kernel_rfl
    rw [this]
    have b1 := ex_bd f v
    have b2 := ff_bd f v
    have b3 := kl_cases f v
    have hr : RR f = 32 ∨ RR f = 256 := by unfold RR; split <;> simp
    have fin : ∀ (w : Int) (B : Int), w = MM f → B = BB f → ru (sg f v) (if kl f v = 2 then ex f v - 1 + le f - w else if kl f v = 0 ∨ kl f v = 1 then le f - w else 0) (if kl f v = 2 then ff f v + B else if kl f v = 0 ∨ kl f v = 1 then ff f v else 0) = some (.tup [.b (sg f v), .i .i64 (xp f v), .i .u64 (sig f v)], []) := by
      rintro w B rfl rfl
      refine ru_eq rfl ?_ ?_
      · unfold xp; (repeat' split) <;> omega
      · unfold sig; (repeat' split) <;> omega
    refine by3_of (fun h => ?_) (fun h => ?_) (fun h0 h1 => ?_)
    · subst h
      have e1 : RR 0 = 32 := rfl
      have e2 : BB 0 = 1024 := rfl
      have e3 : le 0 = -14 := rfl
      rw [uR_eq (sg 0 v) (kl 0 v) (ex 0 v) (ff 0 v) (le 0) 10 10 (by omega) (by omega) (by rw [e2] at b2; exact b2) (by omega) (by omega) 1024 (by decide)]
      exact fin 10 (2 ^ 10) rfl rfl
    · subst h
      have e1 : RR 1 = 256 := rfl
      have e2 : BB 1 = 128 := rfl
      have e3 : le 1 = -126 := rfl
      rw [uR_eq (sg 1 v) (kl 1 v) (ex 1 v) (ff 1 v) (le 1) 7 7 (by omega) (by omega) (by rw [e2] at b2; exact b2) (by omega) (by omega) 128 (by decide)]
      exact fin 7 (2 ^ 7) rfl rfl
    · obtain ⟨e1, e2, _, e4, _, e3⟩ := oth h0 h1
      rw [uR_eq (sg f v) (kl f v) (ex f v) (ff f v) (le f) 23 23 (by omega) (by omega) (by rw [e2] at b2; exact b2) (by omega) (by omega) 8388608 (by decide)]
      exact fin 23 (2 ^ 23) e4.symm e2.symm
  · cases hv
theorem okFinR : OrcOk PR (ent i_annealref1_Finite [] 0 sFin) := fn0 okOR3 mixed p_annealref1_Finite (by kernel_rfl) (by kernel_rfl) (by kernel_rfl) fun l hc r h' hv ho hh => by
  unfold sFin at hv
  split at hv
  · rename_i f v
    obtain ⟨rfl, rfl⟩ := Tr.ret_val hv
    have : run0 PR OR3 f_annealref1_Finite [.i .i64 f, .i .u32 v] [] = some (.b (decide (kl f v < 3)), []) := by kernel_rfl
    rw [this]
    have b3 := kl_cases f v
    have hr : RR f = 32 ∨ RR f = 256 := by unfold RR; split <;> simp
    have : decide (kl f v < 3) = decide (ex f v < RR f - 1) := decide_eq_decide.2 (by omega)
    rw [this]
  · cases hv
theorem okZeroR : OrcOk PR (ent i_annealref1_Zero [] 0 sZero) := fn0 okOR3 mixed p_annealref1_Zero (by kernel_rfl) (by kernel_rfl) (by kernel_rfl) fun l hc r h' hv ho hh => by
  have hv2 := hv
  unfold sZero at hv
  split at hv
  · rename_i f b
    have : run0 PR OR3 f_annealref1_Zero [.i .i64 f, .b b] [] = (sZero [.i .i64 f, .b b] []).val := by kernel_rfl
    exact this.trans hv2
  · cases hv
theorem okInfR : OrcOk PR (ent i_annealref1_Inf [] 0 sInf) := fn0 okOR3 mixed p_annealref1_Inf (by kernel_rfl) (by kernel_rfl) (by kernel_rfl) fun l hc r h' hv ho hh => by
  unfold sInf at hv
  split at hv
  · rename_i f b
    obtain ⟨rfl, rfl⟩ := Tr.ret_val hv
    have : run0 PR OR3 f_annealref1_Inf [.i .i64 f, .b b] [] = by3 f (ri .u32 (bits .or .u32 (if b then TT f else 0) 31744)) (ri .u32 (bits .or .u32 (if b then TT f else 0) 32640)) (ri .u32 (bits .or .u32 (if b then TT f else 0) 2139095040)) := by kernel_rfl
    rw [this]
    refine by3_of (fun h => ?_) (fun h => ?_) (fun h0 h1 => ?_)
    · subst h; cases b <;> rfl
    · subst h; cases b <;> rfl
    · obtain ⟨e1, e2, e3, _⟩ := oth h0 h1
      rw [e1, e2, e3]; cases b <;> rfl
  · cases hv
def OR4 : Orc := ors OR3 (ent i_annealref1_Inf [] 0 sInf)
theorem okOR4 : OrcOk PR OR4 := ors_ok okOR3 okInfR
theorem okGreatR : OrcOk PR (ent i_annealref1_Greatest [] 0 sGreat) := fn0 okOR4 mixed p_annealref1_Greatest (by kernel_rfl) (by kernel_rfl) (by kernel_rfl) fun l hc r h' hv ho hh => by
  unfold sGreat at hv
  split at hv
  · rename_i f b
    obtain ⟨rfl, rfl⟩ := Tr.ret_val hv
    have : run0 PR OR4 f_annealref1_Greatest [.i .i64 f, .b b] [] = ri .u32 (IntKind.u32.wrap (((RR f - 1) * BB f + if b then TT f else 0) - 1)) := by kernel_rfl
    rw [this]
    refine f3 f (fun h => ?_) (fun h => ?_) (fun _ _ h0 h1 => ?_)
    · subst h; cases b <;> rfl
    · subst h; cases b <;> rfl
    · obtain ⟨e1, e2, e3, _⟩ := oth h0 h1
      rw [e1, e2, e3]; cases b <;> rfl
  · cases hv
theorem okNanR : OrcOk PR (ent i_annealref1_Nan [] 0 sNan) := fn0 okOR4 mixed p_annealref1_Nan (by kernel_rfl) (by kernel_rfl) (by kernel_rfl) fun l hc r h' hv ho hh => by
  unfold sNan at hv
  split at hv
  · rename_i f
    obtain ⟨rfl, rfl⟩ := Tr.ret_val hv
    have : run0 PR OR4 f_annealref1_Nan [.i .i64 f] [] = by3 f (ri .u32 (bits .or .u32 ((RR f - 1) * BB f + if false = true then TT f else 0) 512)) (ri .u32 (bits .or .u32 ((RR f - 1) * BB f + if false = true then TT f else 0) 64)) (ri .u32 (bits .or .u32 ((RR f - 1) * BB f + if false = true then TT f else 0) 4194304)) := by kernel_rfl
    rw [this]
    refine by3_of (fun h => ?_) (fun h => ?_) (fun h0 h1 => ?_)
    · subst h; rfl
    · subst h; rfl
    · obtain ⟨e1, e2, e3, _⟩ := oth h0 h1
      rw [e1, e2, e3]; rfl
  · cases hv
end Go.Proofs.Ytcpicekmnkjceaa.VI
