import Derived.Test.YtcpicekmnkjceaaTFm2
namespace Go.Proofs.Ytcpicekmnkjceaa.VI
set_option linter.unusedVariables false
set_option linter.unusedSimpArgs false
set_option maxRecDepth 100000
set_option linter.unusedSimpArgs false
set_option linter.unusedVariables false
theorem oth {f : Int} (h0 : f ≠ 0) (h1 : f ≠ 1) : RR f = 256 ∧ BB f = 8388608 ∧ TT f = 2147483648 ∧ MM f = 23 ∧ EE f = 8 ∧ le f = -126 := by
  simp [RR, BB, TT, MM, EE, le, h0, h1]
def sJoin (l : List V) (h : Heap) : Tr := match l, h with
  | [.i .i64 f, .b s, .i .i64 x, .i .u32 v], [] => .ret (.i .u32 (bits .or .u32 (bits .or .u32 (IntKind.u32.wrap (IntKind.u32.wrap x * BB f)) v) (if s then TT f else 0))) []
  | _, _ => .no
def jT (b : Bool) (x v m t : Int) : Option (V × Heap) := bif b then ri .u32 (bits .or .u32 (bits .or .u32 (IntKind.u32.wrap (IntKind.u32.wrap x * m)) v) t) else ri .u32 (bits .or .u32 (IntKind.u32.wrap (IntKind.u32.wrap x * m)) v)
theorem jT_eq (b : Bool) (x v m t : Int) : jT b x v m t = ri .u32 (bits .or .u32 (bits .or .u32 (IntKind.u32.wrap (IntKind.u32.wrap x * m)) v) (if b then t else 0)) := by
  cases b with
  | true => rfl
  | false =>
    have h := wrap_in .u32 ((match BinOp.or with
      | .and => BitVec.ofInt IntKind.u32.bits (IntKind.u32.wrap (IntKind.u32.wrap x * m)) &&& BitVec.ofInt IntKind.u32.bits v
      | .or => BitVec.ofInt IntKind.u32.bits (IntKind.u32.wrap (IntKind.u32.wrap x * m)) ||| BitVec.ofInt IntKind.u32.bits v
      | .xor => BitVec.ofInt IntKind.u32.bits (IntKind.u32.wrap (IntKind.u32.wrap x * m)) ^^^ BitVec.ofInt IntKind.u32.bits v
      | _ => BitVec.ofInt IntKind.u32.bits (IntKind.u32.wrap (IntKind.u32.wrap x * m)) &&& ~~~BitVec.ofInt IntKind.u32.bits v).toNat : Int)
    have h2 : inR .u32 (bits .or .u32 (IntKind.u32.wrap (IntKind.u32.wrap x * m)) v) := h
    have h3 : 0 ≤ bits .or .u32 (IntKind.u32.wrap (IntKind.u32.wrap x * m)) v ∧ bits .or .u32 (IntKind.u32.wrap (IntKind.u32.wrap x * m)) v ≤ 4294967295 := h2
    show ri .u32 _ = ri .u32 (bits .or .u32 _ 0)
    rw [or_zero32 _ h3.1 (by omega)]
theorem okJoin : OrcOk PR (ent i_format_Join [] 0 sJoin) := fn0 okWid mixed p_format_Join (by kernel_rfl) (by kernel_rfl) (by kernel_rfl) fun l hc r h' hv ho hh => by
  unfold sJoin at hv
  split at hv
  · rename_i f b x v
    obtain ⟨rfl, rfl⟩ := Tr.ret_val hv
    have : run0 PR (ent i_format_Widths [] 0 sWid) f_format_Join [.i .i64 f, .b b, .i .i64 x, .i .u32 v] [] = by3 f (jT b x v 1024 32768) (jT b x v 128 32768) (jT b x v 8388608 2147483648) := by kernel_rfl
    rw [this]
    simp only [jT_eq]
    refine by3_of (fun h => ?_) (fun h => ?_) (fun h0 h1 => ?_)
    · subst h; rfl
    · subst h; rfl
    · obtain ⟨e1, e2, e3, _⟩ := oth h0 h1
      rw [e2, e3]; rfl
  · cases hv
def OJ : Orc := ors OF (ors (ent i_format_Join [] 0 sJoin) (ent i_format_Class [] 0 sClass))
theorem okOJ : OrcOk PR OJ := ors_ok okOF (ors_ok okJoin okClass)
def sZero (l : List V) (h : Heap) : Tr := match l, h with
  | [.i .i64 f, .b s], [] => .ret (.i .u32 (if s then TT f else 0)) []
  | _, _ => .no
def sInf (l : List V) (h : Heap) : Tr := match l, h with
  | [.i .i64 f, .b s], [] => .ret (.i .u32 ((RR f - 1) * BB f + if s then TT f else 0)) []
  | _, _ => .no
def sGreat (l : List V) (h : Heap) : Tr := match l, h with
  | [.i .i64 f, .b s], [] => .ret (.i .u32 ((RR f - 1) * BB f - 1 + if s then TT f else 0)) []
  | _, _ => .no
def sNan (l : List V) (h : Heap) : Tr := match l, h with
  | [.i .i64 f], [] => .ret (.i .u32 ((RR f - 1) * BB f + BB f / 2)) []
  | _, _ => .no
def jn (f : Int) (b : Bool) (x v : Int) : Int := bits .or .u32 (bits .or .u32 (IntKind.u32.wrap (IntKind.u32.wrap x * BB f)) v) (if b then TT f else 0)
theorem okZero : OrcOk PR (ent i_format_Zero [] 0 sZero) := fn0 okOJ mixed p_format_Zero (by kernel_rfl) (by kernel_rfl) (by kernel_rfl) fun l hc r h' hv ho hh => by
  unfold sZero at hv
  split at hv
  · rename_i f b
    obtain ⟨rfl, rfl⟩ := Tr.ret_val hv
    have : run0 PR OJ f_format_Zero [.i .i64 f, .b b] [] = ri .u32 (jn f b 0 0) := by kernel_rfl
    rw [this]
    unfold jn
    refine f3 f (fun h => ?_) (fun h => ?_) (fun _ _ h0 h1 => ?_)
    · subst h; cases b <;> rfl
    · subst h; cases b <;> rfl
    · obtain ⟨e1, e2, e3, _⟩ := oth h0 h1
      rw [e2, e3]; cases b <;> rfl
  · cases hv
theorem okInf : OrcOk PR (ent i_format_Inf [] 0 sInf) := fn0 okOJ mixed p_format_Inf (by kernel_rfl) (by kernel_rfl) (by kernel_rfl) fun l hc r h' hv ho hh => by
  unfold sInf at hv
  split at hv
  · rename_i f b
    obtain ⟨rfl, rfl⟩ := Tr.ret_val hv
    have : run0 PR OJ f_format_Inf [.i .i64 f, .b b] [] = ri .u32 (jn f b (RR f - 1) 0) := by kernel_rfl
    rw [this]
    unfold jn
    refine f3 f (fun h => ?_) (fun h => ?_) (fun _ _ h0 h1 => ?_)
    · subst h; cases b <;> rfl
    · subst h; cases b <;> rfl
    · obtain ⟨e1, e2, e3, _⟩ := oth h0 h1
      rw [e1, e2, e3]; cases b <;> rfl
  · cases hv
theorem okGreat : OrcOk PR (ent i_format_Greatest [] 0 sGreat) := fn0 okOJ mixed p_format_Greatest (by kernel_rfl) (by kernel_rfl) (by kernel_rfl) fun l hc r h' hv ho hh => by
  unfold sGreat at hv
  split at hv
  · rename_i f b
    obtain ⟨rfl, rfl⟩ := Tr.ret_val hv
    have : run0 PR OJ f_format_Greatest [.i .i64 f, .b b] [] = by3 f (ri .u32 (jn f b (IntKind.i64.wrap (RR f - 1 - 1)) 1023)) (ri .u32 (jn f b (IntKind.i64.wrap (RR f - 1 - 1)) 127)) (ri .u32 (jn f b (IntKind.i64.wrap (RR f - 1 - 1)) 8388607)) := by kernel_rfl
    rw [this]
    unfold jn
    refine by3_of (fun h => ?_) (fun h => ?_) (fun h0 h1 => ?_)
    · subst h; cases b <;> rfl
    · subst h; cases b <;> rfl
    · obtain ⟨e1, e2, e3, _⟩ := oth h0 h1
      rw [e1, e2, e3]; cases b <;> rfl
  · cases hv
theorem okNan : OrcOk PR (ent i_format_Nan [] 0 sNan) := fn0 okOJ mixed p_format_Nan (by kernel_rfl) (by kernel_rfl) (by kernel_rfl) fun l hc r h' hv ho hh => by
  unfold sNan at hv
  split at hv
  · rename_i f
    obtain ⟨rfl, rfl⟩ := Tr.ret_val hv
    have : run0 PR OJ f_format_Nan [.i .i64 f] [] = by3 f (ri .u32 (jn f false (RR f - 1) 512)) (ri .u32 (jn f false (RR f - 1) 64)) (ri .u32 (jn f false (RR f - 1) 4194304)) := by kernel_rfl
    rw [this]
    unfold jn
    refine by3_of (fun h => ?_) (fun h => ?_) (fun h0 h1 => ?_)
    · subst h; rfl
    · subst h; rfl
    · obtain ⟨e1, e2, e3, _⟩ := oth h0 h1
      rw [e1, e2, e3]; rfl
  · cases hv
def OR1 : Orc := ent i_annealref1_Widths [] 0 sWid
theorem okMaskR : OrcOk PR (ent i_annealref1_Mask [] 0 sMask) := fn0 okWidR mixed p_annealref1_Mask (by kernel_rfl) (by kernel_rfl) (by kernel_rfl) fun l hc r h' hv ho hh => by
  unfold sMask at hv
  split at hv
  · rename_i f
    obtain ⟨rfl, rfl⟩ := Tr.ret_val hv
    have : run0 PR OR1 f_annealref1_Mask [.i .i64 f] [] = by3 f (ri .u32 65535) (ri .u32 65535) (ri .u32 4294967295) := by kernel_rfl
    refine Eq.trans this (by3_of (fun h => ?_) (fun h => ?_) (fun h0 h1 => ?_))
    · subst h; rfl
    · subst h; rfl
    · simp [ri, TT, h0, h1]
  · cases hv
def sBias (l : List V) (h : Heap) : Tr := match l, h with
  | [.i .i64 f], [] => .ret (.i .i64 (1 - le f)) []
  | _, _ => .no
theorem okBiasR : OrcOk PR (ent i_annealref1_bias [] 0 sBias) := fn0 okWidR mixed p_annealref1_bias (by kernel_rfl) (by kernel_rfl) (by kernel_rfl) fun l hc r h' hv ho hh => by
  unfold sBias at hv
  split at hv
  · rename_i f
    obtain ⟨rfl, rfl⟩ := Tr.ret_val hv
    have : run0 PR OR1 f_annealref1_bias [.i .i64 f] [] = by3 f (ri .i64 15) (ri .i64 127) (ri .i64 127) := by kernel_rfl
    refine Eq.trans this (by3_of (fun h => ?_) (fun h => ?_) (fun h0 h1 => ?_))
    · subst h; rfl
    · subst h; rfl
    · simp [ri, le, RR, h0, h1]
  · cases hv
theorem okSignR : OrcOk PR (ent i_annealref1_sign [] 0 sZero) := fn0 okWidR mixed p_annealref1_sign (by kernel_rfl) (by kernel_rfl) (by kernel_rfl) fun l hc r h' hv ho hh => by
  unfold sZero at hv
  split at hv
  · rename_i f b
    obtain ⟨rfl, rfl⟩ := Tr.ret_val hv
    have : run0 PR OR1 f_annealref1_sign [.i .i64 f, .b b] [] = by3 f (bif b then ri .u32 32768 else ri .u32 0) (bif b then ri .u32 32768 else ri .u32 0) (bif b then ri .u32 2147483648 else ri .u32 0) := by kernel_rfl
    refine Eq.trans this (by3_of (fun h => ?_) (fun h => ?_) (fun h0 h1 => ?_))
    · subst h; cases b <;> rfl
    · subst h; cases b <;> rfl
    · obtain ⟨e1, e2, e3, _⟩ := oth h0 h1
      rw [e3]; cases b <;> rfl
  · cases hv
theorem masked (f v : Int) (h0 : 0 ≤ v) (h1 : v < 4294967296) : bits .and .u32 v (2 * TT f - 1) = v % (2 * TT f) := by
  refine f3 f (fun h => ?_) (fun h => ?_) (fun _ _ g0 g1 => ?_)
  · subst h; exact a16 v h0 h1
  · subst h; exact a16 v h0 h1
  · obtain ⟨e1, e2, e3, _⟩ := oth g0 g1
    rw [e3]
    show bits .and .u32 v 4294967295 = v % 4294967296
    rw [a32 v h0 h1]; omega
def sPartsR (l : List V) (h : Heap) : Tr := match l, h with
  | [.i .i64 f, .i .u32 v], [] => .ret (.tup [.b (sg f v), .i .i64 (ex f v), .i .u64 (ff f v)]) []
  | _, _ => .no
theorem okPartsR : OrcOk PR (ent i_annealref1_parts [] 0 sPartsR) := fn0 (ors_ok okWidR okMaskR) mixed p_annealref1_parts (by kernel_rfl) (by kernel_rfl) (by kernel_rfl) fun l hc r h' hv ho hh => by
  unfold sPartsR at hv
  split at hv
  · rename_i f v
    obtain ⟨rfl, rfl⟩ := Tr.ret_val hv
    have : run0 PR (ors OR1 (ent i_annealref1_Mask [] 0 sMask)) f_annealref1_parts [.i .i64 f, .i .u32 v] [] = by3 f
      (ru (bits .and .u32 v (2 * TT f - 1) / 32768 == 1) (IntKind.i64.wrap (bits .and .u32 (bits .and .u32 v (2 * TT f - 1) / 1024) 31)) (IntKind.u64.wrap (bits .and .u32 (bits .and .u32 v (2 * TT f - 1)) 1023)))
      (ru (bits .and .u32 v (2 * TT f - 1) / 32768 == 1) (IntKind.i64.wrap (bits .and .u32 (bits .and .u32 v (2 * TT f - 1) / 128) 255)) (IntKind.u64.wrap (bits .and .u32 (bits .and .u32 v (2 * TT f - 1)) 127)))
      (ru (bits .and .u32 v (2 * TT f - 1) / 2147483648 == 1) (IntKind.i64.wrap (bits .and .u32 (bits .and .u32 v (2 * TT f - 1) / 8388608) 255)) (IntKind.u64.wrap (bits .and .u32 (bits .and .u32 v (2 * TT f - 1)) 8388607))) := by kernel_rfl
    have hv : 0 ≤ v ∧ v ≤ 4294967295 := ho.2.1
    have w64u : ∀ n : Int, 0 ≤ n → n < 4294967296 → IntKind.u64.wrap n = n := fun n p q => by
      obtain ⟨m, rfl⟩ := Int.eq_ofNat_of_zero_le p
      exact wrap_nat rfl (by show m < 18446744073709551616; omega)
    refine Eq.trans this ?_
    rw [masked f v hv.1 (by omega)]
    refine by3_of (fun h => ?_) (fun h => ?_) (fun h0 h1 => ?_)
    · subst h
      have e3 : TT 0 = 32768 := rfl
      rw [e3, a5 _ (by omega) (by omega), a10 _ (by omega) (by omega), w64_id (by omega), w64u _ (by omega) (by omega)]
      refine ru_eq ?_ ?_ ?_
      · unfold sg; rw [e3, Bool.eq_iff_iff]; simp; omega
      · show v % (2 * 32768) / 1024 % 32 = v / 1024 % 32; omega
      · show v % (2 * 32768) % 1024 = v % 1024; omega
    · subst h
      have e3 : TT 1 = 32768 := rfl
      rw [e3, a8 _ (by omega) (by omega), a7 _ (by omega) (by omega), w64_id (by omega), w64u _ (by omega) (by omega)]
      refine ru_eq ?_ ?_ ?_
      · unfold sg; rw [e3, Bool.eq_iff_iff]; simp; omega
      · show v % (2 * 32768) / 128 % 256 = v / 128 % 256; omega
      · show v % (2 * 32768) % 128 = v % 128; omega
    · obtain ⟨e1, e2, e3, _⟩ := oth h0 h1
      rw [e3, a8 _ (by omega) (by omega), a23 _ (by omega) (by omega), w64_id (by omega), w64u _ (by omega) (by omega)]
      refine ru_eq ?_ ?_ ?_
      · unfold sg; rw [e3, Bool.eq_iff_iff]; simp; omega
      · unfold ex; rw [e1, e2]; omega
      · unfold ff; rw [e2]; omega
  · cases hv
end Go.Proofs.Ytcpicekmnkjceaa.VI
