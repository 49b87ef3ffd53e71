import Derived.Test.YtcpicekmnkjceaaTH
namespace Go.Proofs.Ytcpicekmnkjceaa.VI
set_option linter.unusedVariables false
set_option linter.unusedSimpArgs false
set_option maxRecDepth 100000
set_option linter.unusedSimpArgs false
set_option linter.unusedVariables false
def sWid (l : List V) (h : Heap) : Tr := match l, h with
  | [.i .i64 f], [] => .br (f == 0) (.ret (.tup [.i .i64 5, .i .i64 10]) []) (.br (f == 1) (.ret (.tup [.i .i64 8, .i .i64 7]) []) (.ret (.tup [.i .i64 8, .i .i64 23]) []))
  | _, _ => .no
theorem okWid : OrcOk PR (ent i_format_Widths [] 0 sWid) := fn0 (orn_ok _) mixed p_format_Widths (by kernel_rfl) (by kernel_rfl) (by kernel_rfl) fun l hc r h' hv ho hh => by
  have hv2 := hv
  unfold sWid at hv
  split at hv
  · rename_i f
    have : run0 PR orn f_format_Widths [.i .i64 f] [] = (sWid [.i .i64 f] []).val := by kernel_rfl
    exact this.trans hv2
  · cases hv
theorem okWidR : OrcOk PR (ent i_annealref1_Widths [] 0 sWid) := fn0 (orn_ok _) mixed p_annealref1_Widths (by kernel_rfl) (by kernel_rfl) (by kernel_rfl) fun l hc r h' hv ho hh => by
  have hv2 := hv
  unfold sWid at hv
  split at hv
  · rename_i f
    have : run0 PR orn f_annealref1_Widths [.i .i64 f] [] = (sWid [.i .i64 f] []).val := by kernel_rfl
    exact this.trans hv2
  · cases hv
theorem f3 (f : Int) {P : Prop} (h0 : f = 0 → P) (h1 : f = 1 → P) (h2 : (f == 0) = false → (f == 1) = false → f ≠ 0 → f ≠ 1 → P) : P := by
  rcases tri f with h | h | ⟨a, b⟩
  · exact h0 h
  · exact h1 h
  · exact h2 (by simpa using a) (by simpa using b) a b
def by3 {α : Type} (f : Int) (a b c : α) : α := bif f == 0 then a else bif f == 1 then b else c
theorem by3_of {α : Type} {f : Int} {a b c r : α} (h0 : f = 0 → a = r) (h1 : f = 1 → b = r) (h2 : f ≠ 0 → f ≠ 1 → c = r) : by3 f a b c = r := by
  unfold by3
  refine f3 f (fun e => ?_) (fun e => ?_) fun e0 e1 e2 e3 => ?_
  · subst e; exact h0 rfl
  · subst e; exact h1 rfl
  · rw [e0, e1]; exact h2 e2 e3
def ri (k : IntKind) (n : Int) : Option (V × Heap) := some (.i k n, [])
def sMask (l : List V) (h : Heap) : Tr := match l, h with
  | [.i .i64 f], [] => .ret (.i .u32 (2 * TT f - 1)) []
  | _, _ => .no
theorem okMask : OrcOk PR (ent i_format_Mask [] 0 sMask) := fn0 okWid mixed p_format_Mask (by kernel_rfl) (by kernel_rfl) (by kernel_rfl) fun l hc r h' hv ho hh => by
  unfold sMask at hv
  split at hv
  · rename_i f
    obtain ⟨rfl, rfl⟩ := Tr.ret_val hv
    have : run0 PR (ent i_format_Widths [] 0 sWid) f_format_Mask [.i .i64 f] [] = by3 f (ri .u32 65535) (ri .u32 65535) (ri .u32 4294967295) := by kernel_rfl
    rw [this]
    refine by3_of (fun h => ?_) (fun h => ?_) (fun h0 h1 => ?_)
    · subst h; rfl
    · subst h; rfl
    · simp [ri, TT, h0, h1]
  · cases hv
def sParts (l : List V) (h : Heap) : Tr := match l, h with
  | [.i .i64 f, .i .u32 v], [] => .ret (.tup [.b (sg f v), .i .i64 (ex f v), .i .u32 (ff f v)]) []
  | _, _ => .no
def rp (s : Bool) (e m : Int) : Option (V × Heap) := some (.tup [.b s, .i .i64 e, .i .u32 m], [])
theorem rp_eq {s s' : Bool} {e e' m m' : Int} (h1 : s = s') (h2 : e = e') (h3 : m = m') : rp s e m = some (.tup [.b s', .i .i64 e', .i .u32 m'], []) := by subst h1 h2 h3; rfl
theorem okParts : OrcOk PR (ent i_format_Parts [] 0 sParts) := fn0 okWid mixed p_format_Parts (by kernel_rfl) (by kernel_rfl) (by kernel_rfl) fun l hc r h' hv ho hh => by
  unfold sParts at hv
  split at hv
  · rename_i f v
    obtain ⟨rfl, rfl⟩ := Tr.ret_val hv
    have : run0 PR (ent i_format_Widths [] 0 sWid) f_format_Parts [.i .i64 f, .i .u32 v] [] = by3 f
      (rp (bits .and .u32 (v / 32768) 1 == 1) (IntKind.i64.wrap (bits .and .u32 (v / 1024) 31)) (bits .and .u32 v 1023))
      (rp (bits .and .u32 (v / 32768) 1 == 1) (IntKind.i64.wrap (bits .and .u32 (v / 128) 255)) (bits .and .u32 v 127))
      (rp (bits .and .u32 (v / 2147483648) 1 == 1) (IntKind.i64.wrap (bits .and .u32 (v / 8388608) 255)) (bits .and .u32 v 8388607)) := by kernel_rfl
    rw [this]
    have hv : 0 ≤ v ∧ v ≤ 4294967295 := ho.2.1
    refine by3_of (fun h => ?_) (fun h => ?_) (fun h0 h1 => ?_)
    · subst h
      rw [a1 _ (by omega) (by omega), a5 _ (by omega) (by omega), a10 _ (by omega) (by omega), w64_id (by omega)]
      exact rp_eq rfl rfl rfl
    · subst h
      rw [a1 _ (by omega) (by omega), a8 _ (by omega) (by omega), a7 _ (by omega) (by omega), w64_id (by omega)]
      exact rp_eq rfl rfl rfl
    · rw [a1 _ (by omega) (by omega), a8 _ (by omega) (by omega), a23 _ (by omega) (by omega), w64_id (by omega)]
      refine rp_eq ?_ ?_ ?_
      · simp [sg, TT, h0, h1]
        rfl
      · simp [ex, BB, RR, h0, h1]
      · simp [ff, BB, h0, h1]
  · cases hv
end Go.Proofs.Ytcpicekmnkjceaa.VI
