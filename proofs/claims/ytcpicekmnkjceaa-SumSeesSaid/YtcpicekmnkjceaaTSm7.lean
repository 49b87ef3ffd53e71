import Derived.Test.YtcpicekmnkjceaaTSm6
namespace Go.Proofs.Ytcpicekmnkjceaa.VI
set_option linter.unusedVariables false
set_option linter.unusedSimpArgs false
set_option maxRecDepth 100000
set_option linter.unusedSimpArgs false
set_option linter.unusedVariables false
theorem u8_and1 {a : Nat} (h : a < 256) : bits .and .u8 (a : Int) 1 = ((a % 2 : Nat) : Int) := by
  have := bits_and (k := .u8) rfl (a := a) (b := 1) h (by decide)
  rw [Nat.and_one_is_mod] at this
  exact this
theorem u32_and1 {a : Nat} (h : a < 4294967296) : bits .and .u32 (a : Int) 1 = ((a % 2 : Nat) : Int) := by
  have := u32_and h (b := 1) (by decide)
  rw [Nat.and_one_is_mod] at this
  exact this
abbrev Ai := (Nat × List Int × Int) × Int × Int
def S33b (a : Ai) : St := ⟨fr 36 [(0, .si a.1.1 .u8 a.1.2.1), (3, .i .u32 a.2.1), (4, .i .i64 a.1.2.2), (5, .i .i64 a.2.2)], []⟩
def E33b (b : (Nat × List Int × Int) × Int) : Ex × St := (.exit 2, ⟨fr 36 [(0, .si b.1.1 .u8 b.1.2.1), (3, .i .u32 b.2), (4, .i .i64 b.1.2.2)], []⟩)
def t33b {R : Type} (a : Ai) (kn : Ai → Option R) (ko : (Nat × List Int × Int) × Int → Option R) : Option R := bif decide (a.2.2 < 8) then
    bif decide (0 ≤ a.1.2.2 ∧ a.1.2.2 < (a.1.1 : Int)) then
      bif decide (0 ≤ a.2.2) then
        bif bits .xor .u32 (bits .and .u32 a.2.1 1) (IntKind.u32.wrap (bits .and .u8 (a.1.2.1.getD a.1.2.2.toNat 0 / 2 ^ min a.2.2.toNat 8) 1)) == 1 then
          kn (a.1, bits .xor .u32 (a.2.1 / 2 ^ 1) 3988292384, IntKind.i64.wrap (a.2.2 + 1))
        else kn (a.1, a.2.1 / 2 ^ 1, IntKind.i64.wrap (a.2.2 + 1))
      else none
    else none
  else ko (a.1, a.2.1)
theorem st33b (a : Ai) (R : Type) (K : Ex → St → Option R) : rndk PR orn L0 0 0 [0, 3, 4, 5] [0, 3, 4] (lpN f_annealref24_Sum 1) (S33b a) K = t33b a (fun v => K .normal (S33b v)) (fun b => K (E33b b).1 (E33b b).2) := by
  obtain ⟨⟨n, xs, i⟩, v, j⟩ := a
  kernel_rfl
def g33b (s : St) : LTr := match s.t.getD 0 .u, s.t.getD 3 .u, s.t.getD 4 .u, s.t.getD 5 .u, s.h with
  | .si n .u8 xs, .i .u32 v, .i .i64 i, .i .i64 0, [] => .br (Nat.beq s.t.length 36 && decide (0 ≤ i ∧ i < (n : Int) ∧ n ≤ xs.length)) (.ret (.exit 2) ⟨fr 36 [(0, .si n .u8 xs), (3, .i .u32 (bsts 8 (v.toNat ^^^ (xs.getD i.toNat 0).toNat) : Nat)), (4, .i .i64 i)], []⟩) .no
  | _, _, _, _, _ => .no
theorem lp33b : LoopOk PR 0 (lpN f_annealref24_Sum 1) fun s => g33b (clean [0, 3, 4, 5] 0 s) := by
  refine loop_fin (orn_ok _) mixed (L := L0) (d := 0) (ks2 := [0, 3, 4]) (loopsOk0 (by kernel_rfl)) (E := E33b) (fun b => by simp [E33b]) st33b
    (fun a => inR .u32 a.2.1 ∧ 0 ≤ a.2.2 ∧ a.2.2 ≤ 8 ∧ 0 ≤ a.1.2.2 ∧ a.1.2.2 < a.1.1 ∧ a.1.1 ≤ a.1.2.1.length ∧ ∀ c ∈ a.1.2.1, inR .u8 c) (fun a => (8 - a.2.2).toNat) (fun a => (a.1, (bsts (8 - a.2.2).toNat (a.2.1.toNat ^^^ (a.1.2.1.getD a.1.2.2.toNat 0).toNat / 2 ^ a.2.2.toNat) : Nat))) ?_ ?_
  · rintro ⟨⟨n, xs, i⟩, v, j⟩ ⟨h1, h2, h3, h4, h5, h6, h7⟩
    simp only at h1 h2 h3 h4 h5 h6 h7
    obtain ⟨a, rfl, ha⟩ := u32_nat h1
    have hx : i.toNat < xs.length := by omega
    obtain ⟨c, hc, hc'⟩ := u8_nat (h7 _ (List.getElem_mem hx))
    have hg : xs.getD i.toNat 0 = (c : Int) := by rw [List.getD_eq_getElem?_getD, List.getElem?_eq_getElem hx, hc]; rfl
    by_cases hj : j < 8
    · obtain ⟨j, rfl⟩ := Int.eq_ofNat_of_zero_le h2
      have hq : c / 2 ^ j < 256 := Nat.lt_of_le_of_lt (Nat.div_le_self _ _) hc'
      have e0 : (c : Int) / 2 ^ min j 8 = ((c / 2 ^ j : Nat) : Int) := by
        rw [show min j 8 = j by omega]; push_cast; rfl
      have e1 : IntKind.u32.wrap ((c / 2 ^ j % 2 : Nat) : Int) = ((c / 2 ^ j % 2 : Nat) : Int) := wrap_nat (k := .u32) rfl (by show _ < 4294967296; omega)
      have e2 : bits .xor .u32 ((a % 2 : Nat) : Int) ((c / 2 ^ j % 2 : Nat) : Int) = (((a ^^^ c / 2 ^ j) % 2 : Nat) : Int) := by
        rw [u32_xor (by omega) (by omega), xor_mod2]
        rcases Nat.mod_two_eq_zero_or_one a with k1 | k1 <;> rcases Nat.mod_two_eq_zero_or_one (c / 2 ^ j) with k2 | k2 <;> rw [k1, k2] <;> rfl
      have e3 : (a : Int) / 2 ^ 1 = ((a / 2 : Nat) : Int) := by omega
      have hw := w64_id (n := (j : Int) + 1) (by omega)
      have hdd : c / 2 ^ j / 2 = c / 2 ^ (j + 1) := by rw [Nat.div_div_eq_div_mul, ← Nat.pow_succ]
      have hb : bst (a ^^^ c / 2 ^ j) = (a / 2 ^^^ (if (a ^^^ c / 2 ^ j) % 2 = 1 then poly else 0)) ^^^ c / 2 ^ (j + 1) := by
        unfold bst
        rw [Nat.xor_div_two, hdd, Nat.xor_assoc, Nat.xor_assoc, Nat.xor_comm (c / 2 ^ (j + 1))]
      have hs : (8 - (j : Int)).toNat = (8 - ((j : Int) + 1)).toNat + 1 := by omega
      have hj1 : ((j : Int) + 1).toNat = j + 1 := by omega
      have hlt : decide ((j : Int) < 8) = true := by simpa using hj
      rcases Nat.mod_two_eq_zero_or_one (a ^^^ c / 2 ^ j) with hm | hm
      · refine .inl ⟨((n, xs, i), ((a / 2 : Nat) : Int), (j : Int) + 1), fun R kn ko => ?_, ⟨⟨Int.natCast_nonneg _, by show ((a / 2 : Nat) : Int) ≤ 4294967295; omega⟩, by simp only; omega, by simp only; omega, h4, h5, h6, h7⟩, by simp only; omega, ?_⟩
        · simp only [t33b, hlt, cond_true, h4, h5, and_self, decide_true, Int.natCast_nonneg, Int.toNat_natCast, hg, e0, u8_and1 hq, u32_and1 ha, e1, e2, hm, e3, hw]
          rfl
        · simp only [Int.toNat_natCast, hg, hs, hj1, bsts, hb, hm]
          simp
      · have hlx : a / 2 ^^^ poly < 4294967296 := u32_xor_lt (by omega) (by decide)
        refine .inl ⟨((n, xs, i), ((a / 2 ^^^ poly : Nat) : Int), (j : Int) + 1), fun R kn ko => ?_, ⟨⟨Int.natCast_nonneg _, by show ((a / 2 ^^^ poly : Nat) : Int) ≤ 4294967295; omega⟩, by simp only; omega, by simp only; omega, h4, h5, h6, h7⟩, by simp only; omega, ?_⟩
        · have e4 : bits .xor .u32 ((a / 2 : Nat) : Int) 3988292384 = ((a / 2 ^^^ poly : Nat) : Int) := u32_xor (by omega) (by decide)
          simp only [t33b, hlt, cond_true, h4, h5, and_self, decide_true, Int.natCast_nonneg, Int.toNat_natCast, hg, e0, u8_and1 hq, u32_and1 ha, e1, e2, hm, e3, e4, hw]
          rfl
        · simp only [Int.toNat_natCast, hg, hs, hj1, bsts, hb, hm, if_true]
    · refine .inr fun R kn ko => ?_
      have : j = 8 := by omega
      subst this
      simp only [t33b, hg, Int.toNat_natCast]
      rw [show (8 : Int).toNat = 8 from rfl, show (8 - 8 : Int).toNat = 0 from rfl, Nat.div_eq_of_lt (show c < 2 ^ 8 from hc'), Nat.xor_zero]
      rfl
  · intro s e s' h ho hh
    unfold g33b at h
    split at h
    · rename_i n xs v i h1 h2 h3 h4 h5
      obtain ⟨hl, hr⟩ := LTr.br_val h
      simp only [Bool.and_eq_true, decide_eq_true_eq] at hl
      obtain ⟨hl, k1, k2, k3⟩ := hl
      refine ⟨((n, xs, i), v, 0), wk_st hl ⟨h1, h2, h3, h4, trivial⟩ h5, ⟨ok_at ho h2, Int.le_refl 0, show (0:Int) ≤ 8 by decide, k1, k2, k3, (ok_at ho h1).2⟩, ?_⟩
      rw [← LTr.ret_val hr]
      simp [E33b]
    · cases h
end Go.Proofs.Ytcpicekmnkjceaa.VI
