import Derived.Test.YtcpicekmnkjceaaTH
namespace Go.Proofs.Ytcpicekmnkjceaa.VI
set_option linter.unusedVariables false
set_option linter.unusedSimpArgs false
set_option maxRecDepth 100000
set_option linter.unusedSimpArgs false
set_option linter.unusedVariables false
def poly : Nat := 3988292384
def bst (s : Nat) : Nat := (s / 2) ^^^ (if s % 2 = 1 then poly else 0)
def bsts : Nat → Nat → Nat
  | 0, s => s
  | n + 1, s => bsts n (bst s)
def crc : Nat → List Int → Nat
  | s, [] => s
  | s, c :: l => crc (bsts 8 (s ^^^ c.toNat)) l
theorem bst_lt {s : Nat} (h : s < 4294967296) : bst s < 4294967296 := by
  unfold bst
  refine u32_xor_lt (by omega) ?_
  split <;> decide
theorem bsts_lt : ∀ (n : Nat) {s : Nat}, s < 4294967296 → bsts n s < 4294967296
  | 0, _, h => h
  | n + 1, _, h => bsts_lt n (bst_lt h)
theorem bst_int {a : Nat} (h : a < 4294967296) : bits BinOp.xor IntKind.u32 ((a : Int) / 2 ^ 1) (IntKind.u32.wrap (3988292384 * bits BinOp.and IntKind.u32 a 1)) = (bst a : Nat) := by
  have h1 : bits BinOp.and IntKind.u32 (a : Int) 1 = ((a % 2 : Nat) : Int) := by
    have := u32_and h (b := 1) (by decide)
    rw [Nat.and_one_is_mod] at this
    exact this
  rw [h1]
  have h2 : IntKind.u32.wrap (3988292384 * ((a % 2 : Nat) : Int)) = ((if a % 2 = 1 then poly else 0 : Nat) : Int) := by
    rcases Nat.mod_two_eq_zero_or_one a with e | e <;> rw [e] <;> decide
  rw [h2, show (a : Int) / 2 ^ 1 = ((a / 2 : Nat) : Int) by omega]
  exact u32_xor (by omega) (by split <;> decide)
abbrev Am := (Nat × List Int × Int × Int) × Int × Int
def S34b (a : Am) : St := ⟨fr 31 [(0, .i .u32 a.2.1), (9, .si a.1.1 .u8 a.1.2.1), (10, .i .i64 a.1.2.2.1), (11, .i .i64 a.1.2.2.2), (19, .i .i64 a.2.2)], []⟩
def E34b (b : (Nat × List Int × Int × Int) × Int) : Ex × St := (.exit 2, ⟨fr 31 [(0, .i .u32 b.2), (9, .si b.1.1 .u8 b.1.2.1), (10, .i .i64 b.1.2.2.1), (11, .i .i64 b.1.2.2.2)], []⟩)
def t34b {R : Type} (a : Am) (kn : Am → Option R) (ko : (Nat × List Int × Int × Int) × Int → Option R) : Option R := bif decide (a.2.2 < 8) then kn (a.1, bits BinOp.xor IntKind.u32 (a.2.1 / 2 ^ 1) (IntKind.u32.wrap (3988292384 * bits BinOp.and IntKind.u32 a.2.1 1)), IntKind.i64.wrap (a.2.2 + 1)) else ko (a.1, a.2.1)
theorem st34b (a : Am) (R : Type) (K : Ex → St → Option R) : rndk PR orn L0 0 0 [0, 9, 10, 11, 19] [0, 9, 10, 11] (lpN f_sum32_More 1) (S34b a) K = t34b a (fun v => K .normal (S34b v)) (fun b => K (E34b b).1 (E34b b).2) := by
  obtain ⟨⟨n, xs, l, i⟩, v, j⟩ := a
  kernel_rfl
def g34b (s : St) : LTr := match s.t.getD 0 .u, s.t.getD 9 .u, s.t.getD 10 .u, s.t.getD 11 .u, s.t.getD 19 .u, s.h with
  | .i .u32 v, .si n .u8 xs, .i .i64 l, .i .i64 i, .i .i64 0, [] => .br (Nat.beq s.t.length 31) (.ret (.exit 2) ⟨fr 31 [(0, .i .u32 (bsts 8 v.toNat)), (9, .si n .u8 xs), (10, .i .i64 l), (11, .i .i64 i)], []⟩) .no
  | _, _, _, _, _, _ => .no
theorem lp34b : LoopOk PR 0 (lpN f_sum32_More 1) fun s => g34b (clean [0, 9, 10, 11, 19] 0 s) := by
  refine loop_fin (orn_ok _) mixed (L := L0) (d := 0) (ks2 := [0, 9, 10, 11]) (loopsOk0 (by kernel_rfl)) (E := E34b) (fun b => by simp [E34b]) st34b
    (fun a => inR .u32 a.2.1 ∧ 0 ≤ a.2.2 ∧ a.2.2 ≤ 8) (fun a => (8 - a.2.2).toNat) (fun a => (a.1, (bsts (8 - a.2.2).toNat a.2.1.toNat : Nat))) ?_ ?_
  · rintro ⟨c, v, j⟩ ⟨h1, h2, h3⟩
    simp only at h1 h2 h3
    obtain ⟨a, rfl, ha⟩ := u32_nat h1
    by_cases hj : j < 8
    · refine .inl ⟨(c, (bst a : Nat), j + 1), fun R kn ko => ?_, ⟨⟨Int.natCast_nonneg _, ?_⟩, by simp only; omega, by simp only; omega⟩, by simp only; omega, ?_⟩
      · simp only [t34b, hj, decide_true, cond_true, bst_int ha]
        rw [w64_id (by omega)]
      · have := bst_lt ha; show ((bst a : Nat) : Int) ≤ 4294967295; omega
      · simp only [Int.toNat_natCast]
        rw [show (8 - j).toNat = (8 - (j + 1)).toNat + 1 by omega]; rfl
    · refine .inr fun R kn ko => ?_
      simp only [t34b, hj, decide_false, cond_false]
      rw [show (8 - j).toNat = 0 by omega]; rfl
  · intro s e s' h ho hh
    unfold g34b at h
    split at h
    · rename_i v n xs l i h1 h2 h3 h4 h5 h6
      obtain ⟨hl, h⟩ := LTr.br_val h
      refine ⟨((n, xs, l, i), v, 0), wk_st hl ⟨h1, h2, h3, h4, h5, trivial⟩ h6, ⟨ok_at ho h1, Int.le_refl 0, show (0:Int) ≤ 8 by decide⟩, ?_⟩
      exact LTr.ret_val h
    · cases h
end Go.Proofs.Ytcpicekmnkjceaa.VI
