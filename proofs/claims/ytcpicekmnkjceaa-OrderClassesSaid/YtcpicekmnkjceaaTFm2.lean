import Derived.Test.YtcpicekmnkjceaaTFm1
namespace Go.Proofs.Ytcpicekmnkjceaa.VI
set_option linter.unusedVariables false
set_option linter.unusedSimpArgs false
set_option maxRecDepth 100000
set_option linter.unusedSimpArgs false
set_option linter.unusedVariables false
def sTop (l : List V) (h : Heap) : Tr := match l, h with
  | [.i .i64 f], [] => .ret (.i .i64 (RR f - 1)) []
  | _, _ => .no
def OWid : Orc := ent i_format_Widths [] 0 sWid
theorem okTop : OrcOk PR (ent i_format_Top [] 0 sTop) := fn0 okWid mixed p_format_Top (by kernel_rfl) (by kernel_rfl) (by kernel_rfl) fun l hc r h' hv ho hh => by
  unfold sTop at hv
  split at hv
  · rename_i f
    obtain ⟨rfl, rfl⟩ := Tr.ret_val hv
    have : run0 PR (ent i_format_Widths [] 0 sWid) f_format_Top [.i .i64 f] [] = by3 f (ri .i64 31) (ri .i64 255) (ri .i64 255) := by kernel_rfl
    rw [this]
    refine by3_of (fun h => ?_) (fun h => ?_) (fun h0 h1 => ?_)
    · subst h; rfl
    · subst h; rfl
    · simp [ri, RR, h0, h1]
  · cases hv
def sLeast (l : List V) (h : Heap) : Tr := match l, h with
  | [.i .i64 f], [] => .ret (.i .i64 (le f)) []
  | _, _ => .no
theorem okLeast : OrcOk PR (ent i_format_Least [] 0 sLeast) := fn0 okWid mixed p_format_Least (by kernel_rfl) (by kernel_rfl) (by kernel_rfl) fun l hc r h' hv ho hh => by
  unfold sLeast at hv
  split at hv
  · rename_i f
    obtain ⟨rfl, rfl⟩ := Tr.ret_val hv
    have : run0 PR (ent i_format_Widths [] 0 sWid) f_format_Least [.i .i64 f] [] = by3 f (ri .i64 (-14)) (ri .i64 (-126)) (ri .i64 (-126)) := by kernel_rfl
    rw [this]
    refine by3_of (fun h => ?_) (fun h => ?_) (fun h0 h1 => ?_)
    · subst h; rfl
    · subst h; rfl
    · simp [ri, le, RR, h0, h1]
  · cases hv
def OF : Orc := ors (ent i_format_Widths [] 0 sWid) (ors (ent i_format_Parts [] 0 sParts) (ors (ent i_format_Top [] 0 sTop) (ors (ent i_format_Mask [] 0 sMask) (ent i_format_Least [] 0 sLeast))))
theorem okOF : OrcOk PR OF := ors_ok okWid (ors_ok okParts (ors_ok okTop (ors_ok okMask okLeast)))
def sClass (l : List V) (h : Heap) : Tr := match l, h with
  | [.i .i64 f, .i .u32 v], [] => .ret (.i .i64 (kl f v)) []
  | _, _ => .no
def kT (e m t d : Int) : Option (V × Heap) :=
  bif e == 0 then bif m == 0 then ri .i64 0 else bif e == 0 then ri .i64 1 else bif decide (e < t) then ri .i64 2 else bif m == 0 then ri .i64 3 else bif m / d == 1 then ri .i64 4 else ri .i64 5
  else bif e == 0 then ri .i64 1 else bif decide (e < t) then ri .i64 2 else bif m == 0 then ri .i64 3 else bif m / d == 1 then ri .i64 4 else ri .i64 5
theorem kT_eq (e m t d : Int) : kT e m t d = ri .i64 (if e = 0 then (if m = 0 then 0 else 1) else if e < t then 2 else if m = 0 then 3 else if m / d = 1 then 4 else 5) := by
  simp only [kT, bifI, bifD]
  (repeat' split) <;> first | rfl | (exfalso; omega)
theorem okClass : OrcOk PR (ent i_format_Class [] 0 sClass) := fn0 okOF mixed p_format_Class (by kernel_rfl) (by kernel_rfl) (by kernel_rfl) fun l hc r h' hv ho hh => by
  unfold sClass at hv
  split at hv
  · rename_i f v
    obtain ⟨rfl, rfl⟩ := Tr.ret_val hv
    have : run0 PR OF f_format_Class [.i .i64 f, .i .u32 v] [] = by3 f (kT (ex f v) (ff f v) (RR f - 1) 512) (kT (ex f v) (ff f v) (RR f - 1) 64) (kT (ex f v) (ff f v) (RR f - 1) 4194304) := by kernel_rfl
    rw [this]
    simp only [kT_eq]
    refine by3_of (fun h => ?_) (fun h => ?_) (fun h0 h1 => ?_)
    · subst h; rfl
    · subst h; rfl
    · unfold kl; simp [BB, h0, h1, ri]
  · cases hv
def sUnpack (l : List V) (h : Heap) : Tr := match l, h with
  | [.i .i64 f, .i .u32 v], [] => .ret (.tup [.b (sg f v), .i .i64 (xp f v), .i .u64 (sig f v)]) []
  | _, _ => .no
def ru (s : Bool) (e m : Int) : Option (V × Heap) := some (.tup [.b s, .i .i64 e, .i .u64 m], [])
theorem ru_eq {s s' : Bool} {e e' m m' : Int} (h1 : s = s') (h2 : e = e') (h3 : m = m') : ru s e m = some (.tup [.b s', .i .i64 e', .i .u64 m'], []) := by subst h1 h2 h3; rfl
def uT (s : Bool) (e m t l w b : Int) : Option (V × Heap) :=
  bif e == 0 then ru s (IntKind.i64.wrap (l - w)) (IntKind.u64.wrap m) else bif e == t then ru s 0 0 else ru s (IntKind.i64.wrap (IntKind.i64.wrap (IntKind.i64.wrap (l - w) + e) - 1)) (bits .or .u64 (IntKind.u64.wrap m) b)
theorem uT_eq (s : Bool) (e m t l w : Int) (k : Nat) (hk : k ≤ 62) (he : 0 ≤ e ∧ e < 1000) (hm : 0 ≤ m ∧ m < 2 ^ k) (hl : -1000 < l ∧ l < 1000) (hw : 0 ≤ w ∧ w < 1000) (b : Int) (hb : b = 2 ^ k) :
    uT s e m t l w b = ru s (if e = 0 then l - w else if e = t then 0 else l - w + e - 1) (if e = 0 then m else if e = t then 0 else m + 2 ^ k) := by
  subst hb
  have hp : (2 : Int) ^ k ≤ 4611686018427387904 := by
    have : (2 : Nat) ^ k ≤ 2 ^ 62 := Nat.pow_le_pow_right (by omega) hk
    have h3 : ((2 ^ k : Nat) : Int) ≤ ((2 ^ 62 : Nat) : Int) := by exact_mod_cast this
    simpa using h3
  have hp0 : (0 : Int) < 2 ^ k := Int.pow_pos (by decide)
  have hwm : IntKind.u64.wrap m = m := by
    obtain ⟨a, rfl⟩ := Int.eq_ofNat_of_zero_le hm.1
    exact wrap_nat rfl (by show a < 18446744073709551616; omega)
  unfold uT
  rw [w64_id (n := l - w) (by omega), w64_id (n := l - w + e) (by omega), w64_id (n := l - w + e - 1) (by omega), hwm, or_comm64, or_join64 (2 ^ k) m k (by omega) (by omega) hm.1 hm.2 (by omega) (by simp)]
  simp only [bifI]
  split
  · rfl
  · split
    · rfl
    · rw [Int.add_comm m]
theorem okUnpack : OrcOk PR (ent i_format_Unpack [] 0 sUnpack) := fn0 okOF mixed p_format_Unpack (by kernel_rfl) (by kernel_rfl) (by kernel_rfl) fun l hc r h' hv ho hh => by
  unfold sUnpack at hv
  split at hv
  · rename_i f v
    obtain ⟨rfl, rfl⟩ := Tr.ret_val hv
    have : run0 PR OF f_format_Unpack [.i .i64 f, .i .u32 v] [] = by3 f (uT (sg f v) (ex f v) (ff f v) (RR f - 1) (le f) 10 1024) (uT (sg f v) (ex f v) (ff f v) (RR f - 1) (le f) 7 128) (uT (sg f v) (ex f v) (ff f v) (RR f - 1) (le f) 23 8388608) := by kernel_rfl
    rw [this]
    have b1 := ex_bd f v
    have b2 := ff_bd f v
    refine by3_of (fun h => ?_) (fun h => ?_) (fun h0 h1 => ?_)
    · subst h
      have e1 : RR 0 = 32 := rfl
      have e2 : BB 0 = 1024 := rfl
      have e3 : le 0 = -14 := rfl
      rw [uT_eq (sg 0 v) (ex 0 v) (ff 0 v) (RR 0 - 1) (le 0) 10 10 (by omega) (by omega) (by rw [e2] at b2; exact b2) (by omega) (by omega) 1024 (by decide)]
      exact ru_eq rfl rfl rfl
    · subst h
      have e1 : RR 1 = 256 := rfl
      have e2 : BB 1 = 128 := rfl
      have e3 : le 1 = -126 := rfl
      rw [uT_eq (sg 1 v) (ex 1 v) (ff 1 v) (RR 1 - 1) (le 1) 7 7 (by omega) (by omega) (by rw [e2] at b2; exact b2) (by omega) (by omega) 128 (by decide)]
      exact ru_eq rfl rfl rfl
    · have e1 : RR f = 256 := by simp [RR, h0]
      have e2 : BB f = 8388608 := by simp [BB, h0, h1]
      have e3 : le f = -126 := by simp [le, e1]
      have e4 : MM f = 23 := by simp [MM, h0, h1]
      rw [uT_eq (sg f v) (ex f v) (ff f v) (RR f - 1) (le f) 23 23 (by omega) (by omega) (by rw [e2] at b2; exact b2) (by omega) (by omega) 8388608 (by decide)]
      refine ru_eq rfl ?_ ?_
      · unfold xp; rw [e4]
      · unfold sig; rw [e2]; rfl
  · cases hv
def sFin (l : List V) (h : Heap) : Tr := match l, h with
  | [.i .i64 f, .i .u32 v], [] => .ret (.b (decide (ex f v < RR f - 1))) []
  | _, _ => .no
theorem okFin : OrcOk PR (ent i_format_Finite [] 0 sFin) := fn0 okOF mixed p_format_Finite (by kernel_rfl) (by kernel_rfl) (by kernel_rfl) fun l hc r h' hv ho hh => by
  have hv2 := hv
  unfold sFin at hv
  split at hv
  · rename_i f v
    have : run0 PR OF f_format_Finite [.i .i64 f, .i .u32 v] [] = (sFin [.i .i64 f, .i .u32 v] []).val := by kernel_rfl
    exact this.trans hv2
  · cases hv
end Go.Proofs.Ytcpicekmnkjceaa.VI
