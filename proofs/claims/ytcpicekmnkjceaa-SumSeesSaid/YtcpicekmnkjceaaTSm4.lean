import Derived.Test.YtcpicekmnkjceaaTSm3
namespace Go.Proofs.Ytcpicekmnkjceaa.VI
set_option linter.unusedVariables false
set_option linter.unusedSimpArgs false
set_option maxRecDepth 100000
set_option linter.unusedSimpArgs false
set_option linter.unusedVariables false
theorem xor_mod2 (a b : Nat) : (a ^^^ b) % 2 = (a % 2 + b % 2) % 2 := by
  have := Nat.xor_mod_two_pow (a := a) (b := b) (n := 1)
  rw [Nat.pow_one] at this
  rw [this]
  rcases Nat.mod_two_eq_zero_or_one a with h1 | h1 <;> rcases Nat.mod_two_eq_zero_or_one b with h2 | h2 <;> rw [h1, h2] <;> rfl
theorem xor_two (a b : Nat) (h : b < 2) : 2 * a ^^^ b = 2 * a + b := by
  have h1 : (2 * a ^^^ b) / 2 = a := by rw [Nat.xor_div_two, show 2 * a / 2 = a by omega, show b / 2 = 0 by omega, Nat.xor_zero]
  have h2 : (2 * a ^^^ b) % 2 = b := by rw [xor_mod2]; omega
  omega
theorem xor_4 (a b c d : Nat) : (a ^^^ b) ^^^ (c ^^^ d) = (a ^^^ c) ^^^ (b ^^^ d) := by
  rw [Nat.xor_assoc, Nat.xor_assoc, ← Nat.xor_assoc b, Nat.xor_comm b c, Nat.xor_assoc]
theorem bst_xor (a b : Nat) : bst (a ^^^ b) = bst a ^^^ bst b := by
  unfold bst
  rw [Nat.xor_div_two, xor_4, xor_mod2]
  congr 1
  rcases Nat.mod_two_eq_zero_or_one a with h1 | h1 <;> rcases Nat.mod_two_eq_zero_or_one b with h2 | h2 <;> simp [h1, h2]
theorem bsts_xor : ∀ (n a b : Nat), bsts n (a ^^^ b) = bsts n a ^^^ bsts n b
  | 0, _, _ => rfl
  | n + 1, a, b => by simp only [bsts, bst_xor, bsts_xor n]
theorem bsts_zero : ∀ n, bsts n 0 = 0
  | 0 => rfl
  | n + 1 => by simp only [bsts]; rw [show bst 0 = 0 by decide]; exact bsts_zero n
theorem bsts_add : ∀ (m n s : Nat), bsts (m + n) s = bsts n (bsts m s)
  | 0, n, s => by rw [Nat.zero_add]; rfl
  | m + 1, n, s => by rw [show m + 1 + n = (m + n) + 1 by omega]; simp only [bsts]; exact bsts_add m n (bst s)
def mulN : List Int → Nat → Nat
  | [], _ => 0
  | x :: l, v => (if v % 2 = 1 then x.toNat else 0) ^^^ mulN l (v / 2)
def matF (f : Nat → Nat) : Nat → Nat → List Int
  | _, 0 => []
  | i, n + 1 => (f (2 ^ i) : Nat) :: matF f (i + 1) n
theorem mulN_mat {f : Nat → Nat} (h0 : f 0 = 0) (hx : ∀ a b, f (a ^^^ b) = f a ^^^ f b) : ∀ (n i v : Nat), v < 2 ^ n → mulN (matF f i n) v = f (v * 2 ^ i)
  | 0, i, v, h => by
    have : v = 0 := by omega
    subst this; simp [matF, mulN, h0]
  | n + 1, i, v, h => by
    have hv : v / 2 < 2 ^ n := by rw [Nat.pow_succ] at h; omega
    simp only [matF, mulN, mulN_mat h0 hx n (i + 1) (v / 2) hv, Int.toNat_natCast]
    have e : v * 2 ^ i = (v % 2) * 2 ^ i ^^^ (v / 2) * 2 ^ (i + 1) := by
      have hz := xor_two (v / 2) (v % 2) (by omega)
      have h2 : 2 * (v / 2) + v % 2 = v := by omega
      rw [h2] at hz
      have : (2 * (v / 2) ^^^ v % 2) <<< i = v <<< i := by rw [hz]
      rw [Nat.shiftLeft_xor_distrib] at this
      simp only [Nat.shiftLeft_eq] at this
      rw [← this, Nat.xor_comm]
      congr 1
      rw [Nat.pow_succ]; ac_rfl
    rw [e, hx]
    congr 1
    rcases Nat.mod_two_eq_zero_or_one v with h1 | h1 <;> simp [h1, h0]
theorem matF_len (f : Nat → Nat) : ∀ (n i : Nat), (matF f i n).length = n
  | 0, _ => rfl
  | n + 1, i => by simp [matF, matF_len f n (i + 1)]
theorem matF_mem {f : Nat → Nat} : ∀ {n i : Nat} {x : Int}, x ∈ matF f i n → ∃ j, i ≤ j ∧ j < i + n ∧ x = (f (2 ^ j) : Nat)
  | n + 1, i, x, h => by
    rcases List.mem_cons.1 h with e | e
    · exact ⟨i, by omega, by omega, e⟩
    · obtain ⟨j, h1, h2, h3⟩ := matF_mem e; exact ⟨j, by omega, by omega, h3⟩
def matL (k : Nat) : List Int := matF (bsts k) 0 32
def twL (xs : List Int) : List Int := xs.map fun x => (mulN xs x.toNat : Nat)
theorem matF_map {f g : Nat → Nat} {h : Int → Int} (hh : ∀ j, j < 32 → h ((f (2 ^ j) : Nat) : Int) = (g (2 ^ j) : Nat)) : ∀ (n i : Nat), i + n ≤ 32 → (matF f i n).map h = matF g i n
  | 0, _, _ => rfl
  | n + 1, i, hi => by simp only [matF, List.map_cons, hh i (by omega), matF_map hh n (i + 1) (by omega)]
theorem mul_matL (k v : Nat) (h : v < 4294967296) : mulN (matL k) v = bsts k v := by
  unfold matL
  rw [mulN_mat (bsts_zero k) (bsts_xor k) 32 0 v h, Nat.pow_zero, Nat.mul_one]
theorem tw_matL (k : Nat) : twL (matL k) = matL (2 * k) := by
  refine matF_map (fun j hj => ?_) 32 0 (by omega)
  have h2 : 2 ^ j < 4294967296 := Nat.lt_of_lt_of_le (Nat.pow_lt_pow_right (by decide) hj) (by decide)
  simp only [Int.toNat_natCast]
  rw [mul_matL k _ (bsts_lt k h2), show 2 * k = k + k by omega, bsts_add]
theorem matL_in (k : Nat) : ∀ x ∈ matL k, inR .u32 x := fun x hx => by
  obtain ⟨j, h1, h2, rfl⟩ := matF_mem hx
  have h2 : 2 ^ j < 4294967296 := Nat.lt_of_lt_of_le (Nat.pow_lt_pow_right (by decide) (show j < 32 by omega)) (by decide)
  have := bsts_lt k h2
  exact ⟨Int.natCast_nonneg _, by show ((bsts k (2 ^ j) : Nat) : Int) ≤ 4294967295; omega⟩
theorem mulN_lt : ∀ {l : List Int} {v : Nat}, (∀ x ∈ l, inR .u32 x) → mulN l v < 4294967296
  | [], _, _ => show 0 < 4294967296 by decide
  | x :: l, v, h => by
    obtain ⟨a, rfl, ha⟩ := u32_nat (h x (by simp))
    refine u32_xor_lt ?_ (mulN_lt fun y hy => h y (by simp [hy]))
    split
    · simpa using ha
    · decide
theorem mulN_zero : ∀ l : List Int, mulN l 0 = 0
  | [] => rfl
  | x :: l => by simp [mulN, mulN_zero l]
abbrev At := (Nat × List Int) × Int × Int × Int
def blkM (e : Nat) (xs : List Int) : Blk := ⟨1, e, .ints .u32 xs, true⟩
def S117 (a : At) : St := ⟨fr 24 [(0, .ref 0 1 0), (1, .i .u32 a.2.1), (5, .i .u32 a.2.2.1), (6, .i .i64 a.2.2.2)], [blkM a.1.1 a.1.2]⟩
def E117 (b : (Nat × List Int) × Int) : Ex × St := (.exit 0, ⟨fr 24 [(5, .i .u32 b.2)], [blkM b.1.1 b.1.2]⟩)
def t117 {R : Type} (a : At) (kn : At → Option R) (ko : (Nat × List Int) × Int → Option R) : Option R := bif a.2.1 != 0 then
    bif bits BinOp.and IntKind.u32 a.2.1 1 == 1 then bif decide (0 ≤ a.2.2.2 ∧ a.2.2.2 < 32) then bif decide (0 + a.2.2.2.toNat * 1 < a.1.2.length) then
      kn (a.1, a.2.1 / 2, bits .xor .u32 a.2.2.1 (a.1.2.getD (0 + a.2.2.2.toNat * 1) 0), IntKind.i64.wrap (a.2.2.2 + 1)) else none else none
    else kn (a.1, a.2.1 / 2, a.2.2.1, IntKind.i64.wrap (a.2.2.2 + 1))
  else ko (a.1, a.2.2.1)
theorem st117 (a : At) (R : Type) (K : Ex → St → Option R) : rndk PR orn L0 0 1 [0, 1, 5, 6] [5] (lpN f_sum32_matrix_times 0) (S117 a) K = t117 a (fun v => K .normal (S117 v)) (fun b => K (E117 b).1 (E117 b).2) := by
  obtain ⟨⟨e, xs⟩, v, o, i⟩ := a
  kernel_rfl
def g117 (s : St) : LTr := match s.t.getD 0 .u, s.t.getD 1 .u, s.t.getD 5 .u, s.t.getD 6 .u, s.h with
  | .ref 0 1 0, .i .u32 v, .i .u32 0, .i .i64 0, [⟨1, e, .ints .u32 xs, true⟩] => .br (Nat.beq s.t.length 24 && Nat.beq xs.length 32) (.ret (.exit 0) ⟨fr 24 [(5, .i .u32 (mulN xs v.toNat : Nat))], [blkM e xs]⟩) .no
  | _, _, _, _, _ => .no
theorem lp117 : LoopOk PR 1 (lpN f_sum32_matrix_times 0) fun s => g117 (clean [0, 1, 5, 6] 1 s) := by
  refine loop_fin (orn_ok _) mixed (L := L0) (d := 0) (ks2 := [5]) (loopsOk0 (by kernel_rfl)) (E := E117) (fun b => by simp [E117]) st117
    (fun a => inR .u32 a.2.1 ∧ inR .u32 a.2.2.1 ∧ 0 ≤ a.2.2.2 ∧ a.2.2.2 ≤ 32 ∧ a.1.2.length = 32 ∧ a.2.1.toNat < 2 ^ (32 - a.2.2.2.toNat) ∧ ∀ x ∈ a.1.2, inR .u32 x) (fun a => a.2.1.toNat) (fun a => (a.1, (a.2.2.1.toNat ^^^ mulN (a.1.2.drop a.2.2.2.toNat) a.2.1.toNat : Nat))) ?_ ?_
  · rintro ⟨⟨e, xs⟩, v, o, i⟩ ⟨h1, h2, h3, h4, h5, h6, h7⟩
    simp only at h1 h2 h3 h4 h5 h6 h7
    obtain ⟨a, rfl, ha⟩ := u32_nat h1
    obtain ⟨b, rfl, hb⟩ := u32_nat h2
    simp only [Int.toNat_natCast] at h6
    have hand : bits BinOp.and IntKind.u32 (a : Int) 1 = ((a % 2 : Nat) : Int) := by
      have := u32_and ha (b := 1) (by decide)
      rw [Nat.and_one_is_mod] at this
      exact this
    by_cases h0 : a = 0
    · subst h0
      refine .inr fun R kn ko => ?_
      simp [t117, mulN_zero]
    · have hi : i.toNat < 32 := by
        rcases Nat.lt_or_ge i.toNat 32 with h | h
        · exact h
        · rw [show 32 - i.toNat = 0 by omega] at h6; omega
      have hne : ((a : Int) != 0) = true := by simp; omega
      have hx : i.toNat < xs.length := by omega
      obtain ⟨c, hc, hc'⟩ := u32_nat (h7 _ (List.getElem_mem hx))
      have hd : xs.drop i.toNat = (c : Int) :: xs.drop (i + 1).toNat := by
        rw [List.drop_eq_getElem_cons hx, show (i + 1).toNat = i.toNat + 1 by omega, hc]
      have hp : a / 2 < 2 ^ (32 - (i + 1).toNat) := by
        rw [show 32 - i.toNat = (32 - (i + 1).toNat) + 1 by omega, Nat.pow_succ] at h6
        omega
      have hdv : ((a : Int) / 2) = ((a / 2 : Nat) : Int) := by omega
      have hw := w64_id (n := i + 1) (by omega)
      have hu2 : inR .u32 ((a / 2 : Nat) : Int) := ⟨Int.natCast_nonneg _, by show ((a / 2 : Nat) : Int) ≤ 4294967295; omega⟩
      rcases Nat.mod_two_eq_zero_or_one a with hm | hm
      · refine .inl ⟨((e, xs), (a / 2 : Nat), (b : Int), i + 1), fun R kn ko => ?_, ⟨hu2, h2, by simp only; omega, by simp only; omega, h5, by simp only [Int.toNat_natCast]; exact hp, h7⟩, by simp only [Int.toNat_natCast]; omega, ?_⟩
        · simp only [t117, hne, cond_true, hand, hm, hdv, hw]; rfl
        · simp only [Int.toNat_natCast, hd, mulN, hm]; simp
      · have hlt := u32_xor_lt hb hc'
        refine .inl ⟨((e, xs), (a / 2 : Nat), (b ^^^ c : Nat), i + 1), fun R kn ko => ?_, ⟨hu2, ⟨Int.natCast_nonneg _, by show ((b ^^^ c : Nat) : Int) ≤ 4294967295; omega⟩, by simp only; omega, by simp only; omega, h5, by simp only [Int.toNat_natCast]; exact hp, h7⟩, by simp only [Int.toNat_natCast]; omega, ?_⟩
        · have hg : xs.getD (0 + i.toNat * 1) 0 = (c : Int) := by
            rw [show 0 + i.toNat * 1 = i.toNat by omega, List.getD_eq_getElem?_getD, List.getElem?_eq_getElem hx, hc]; rfl
          simp only [t117, hne, cond_true, hand, hm, hdv, hw, hg, u32_xor hb hc', show (0 ≤ i ∧ i < 32) from ⟨h3, by omega⟩, show 0 + i.toNat * 1 < xs.length by omega, decide_true]
          rfl
        · simp only [Int.toNat_natCast, hd, mulN, hm, if_true, Nat.xor_assoc]
  · intro s e s' h ho hh
    unfold g117 at h
    split at h
    · rename_i v e0 xs h1 h2 h3 h4 h5
      obtain ⟨hl, hr⟩ := LTr.br_val h
      simp only [Bool.and_eq_true] at hl
      obtain ⟨hl, hn⟩ := hl
      have hn := Nat.eq_of_beq_eq_true hn
      have hv := ok_at ho h2
      obtain ⟨a, rfl, ha⟩ := u32_nat hv
      have hxs : ∀ x ∈ xs, inR .u32 x := hh ⟨1, e0, .ints .u32 xs, true⟩ (by rw [h5]; exact List.mem_cons_self)
      refine ⟨((e0, xs), a, 0, 0), wk_st hl ⟨h1, h2, h3, h4, trivial⟩ h5, ⟨hv, ⟨Int.le_refl 0, show (0 : Int) ≤ 4294967295 by decide⟩, Int.le_refl 0, show (0 : Int) ≤ 32 by decide, hn, ha, hxs⟩, ?_⟩
      rw [← LTr.ret_val hr]
      simp [E117]
    · cases h
def sp117 (l : List V) (h : Heap) : Tr := match l, h with
  | [.ref 0 1 0, .i .u32 v], [⟨1, e, .ints .u32 xs, true⟩] => .br (Nat.beq xs.length 32) (.ret (.i .u32 (mulN xs v.toNat : Nat)) [blkM e xs]) .no
  | _, _ => .no
theorem run117 (e : Nat) (xs : List Int) (v : Int) : runk PR orn (byL [0, 1, 5, 6] 1 g117) false f_sum32_matrix_times (f_sum32_matrix_times.body.getD .skip) [.ref 0 1 0, .i .u32 v] [blkM e xs] (fun r h => some (r, h)) = (sp117 [.ref 0 1 0, .i .u32 v] [blkM e xs]).val := by kernel_rfl
theorem ok117 : OrcOk PR (ent i_sum32_matrix_times [true] 0 sp117) := fn_ok (orn_ok _) mixed (L := byL [0, 1, 5, 6] 1 g117) (kp := false) p_sum32_matrix_times (by kernel_rfl) (by kernel_rfl) fun l hc r h' hv ho hh => by
  have hv2 := hv
  unfold sp117 at hv
  split at hv
  · exact ⟨loopsOk1 (a := lpN f_sum32_matrix_times 0) (f := fun s => g117 (clean [0, 1, 5, 6] 1 s)) (by kernel_rfl) lp117, (run117 _ _ _).trans hv2⟩
  · cases hv
end Go.Proofs.Ytcpicekmnkjceaa.VI
