import Derived.Test.YtcpicekmnkjceaaTSm5
namespace Go.Proofs.Ytcpicekmnkjceaa.VI
set_option linter.unusedVariables false
set_option linter.unusedSimpArgs false
set_option maxRecDepth 100000
set_option linter.unusedSimpArgs false
set_option linter.unusedVariables false
theorem i64_and1 {a : Nat} (h : a < 9223372036854775808) : bits .and .i64 (a : Int) 1 = ((a % 2 : Nat) : Int) := by
  unfold bits
  rw [show (1 : Int) = ((1 : Nat) : Int) from rfl]
  simp only [ofInt_nat, BitVec.toNat_and, BitVec.toNat_ofNat]
  rw [show IntKind.i64.bits = 64 from rfl, Nat.mod_eq_of_lt (show a < 2 ^ 64 by omega), show 1 % 2 ^ 64 = 1 from rfl, Nat.and_one_is_mod]
  exact w64_id (by omega)
def O81 : Orc := ors (ent i_sum32_one [] 1 sp115) (ors O117 (ent i_sum32_matrix_twice [true] 1 sp116))
theorem okO81 : OrcOk PR O81 := ors_ok ok115 (ors_ok ok117 ok116)
abbrev Ao := (Nat × List Int × Nat) × Int × Int
def S81 (a : Ao) : St := ⟨fr 26 [(0, .i .u32 a.2.1), (1, .i .i64 a.2.2), (5, .ref 0 1 0)], [blkM a.1.1 a.1.2.1]⟩
def E81 (b : Int) : Ex × St := (.exit 0, ⟨fr 26 [(0, .i .u32 b)], []⟩)
def t81 {R : Type} (a : Ao) (kn : Ao → Option R) (ko : Int → Option R) : Option R := bif decide (a.2.2 > 0) then
    bif bits BinOp.and IntKind.i64 a.2.2 1 == 1 then
      bif a.1.2.1.length.beq 32 then
        bif a.1.2.1.length.beq 32 then kn ((131, twL a.1.2.1, 2 * a.1.2.2), (mulN a.1.2.1 a.2.1.toNat : Nat), a.2.2 / 2)
        else none
      else none
    else
      bif a.1.2.1.length.beq 32 then kn ((131, twL a.1.2.1, 2 * a.1.2.2), a.2.1, a.2.2 / 2)
      else none
  else ko a.2.1
theorem st81 (a : Ao) (R : Type) (K : Ex → St → Option R) : rndk PR O81 L0 0 0 [0, 1, 5] [0] (lpN f_sum32_noughts 0) (S81 a) K = t81 a (fun v => K .normal (S81 v)) (fun b => K (E81 b).1 (E81 b).2) := by
  obtain ⟨⟨e, xs, k⟩, v, n⟩ := a
  kernel_rfl
def g81 (s : St) : LTr := match s.t.getD 0 .u, s.t.getD 1 .u, s.t.getD 5 .u, s.h with
  | .i .u32 v, .i .i64 n, .ref 0 1 0, [⟨1, e, .ints .u32 xs, true⟩] => .br (Nat.beq s.t.length 26 && decide (xs = matL 8)) (.ret (.exit 0) ⟨fr 26 [(0, .i .u32 (bsts (8 * n.toNat) v.toNat : Nat))], []⟩) .no
  | _, _, _, _ => .no
theorem lp81 : LoopOk PR 0 (lpN f_sum32_noughts 0) fun s => g81 (clean [0, 1, 5] 0 s) := by
  refine loop_fin okO81 mixed (L := L0) (d := 0) (ks2 := [0]) (loopsOk0 (by kernel_rfl)) (E := E81) (fun b => by simp [E81]) st81
    (fun a => a.1.2.1 = matL a.1.2.2 ∧ inR .u32 a.2.1 ∧ inR .i64 a.2.2) (fun a => a.2.2.toNat) (fun a => (bsts (a.1.2.2 * a.2.2.toNat) a.2.1.toNat : Nat)) ?_ ?_
  · rintro ⟨⟨e, xs, k⟩, v, n⟩ ⟨h1, h2, h3⟩
    simp only at h1 h2 h3
    subst h1
    have h3 := i64_in h3
    obtain ⟨a, rfl, ha⟩ := u32_nat h2
    have hlen : (matL k).length.beq 32 = true := by rw [show (matL k).length = 32 from matF_len _ _ _]; rfl
    by_cases hn : n > 0
    · obtain ⟨b, rfl⟩ := Int.eq_ofNat_of_zero_le (show 0 ≤ n by omega)
      have hb : b < 9223372036854775808 := by omega
      have hd : ((b : Int) / 2) = ((b / 2 : Nat) : Int) := by omega
      have h3' : inR .i64 ((b / 2 : Nat) : Int) := ⟨by show -9223372036854775808 ≤ ((b / 2 : Nat) : Int); omega, by show ((b / 2 : Nat) : Int) ≤ 9223372036854775807; omega⟩
      have hlt := bsts_lt k ha
      rcases Nat.mod_two_eq_zero_or_one b with hm | hm
      · refine .inl ⟨((131, twL (matL k), 2 * k), (a : Int), ((b / 2 : Nat) : Int)), fun R kn ko => ?_, ⟨tw_matL k, h2, h3'⟩, by simp only [Int.toNat_natCast]; omega, ?_⟩
        · simp only [t81, hn, decide_true, cond_true, i64_and1 hb, hm, hlen, hd]; rfl
        · simp only [Int.toNat_natCast]
          rw [Nat.mul_comm 2 k, Nat.mul_assoc, show 2 * (b / 2) = b by omega]
      · refine .inl ⟨((131, twL (matL k), 2 * k), (bsts k a : Nat), ((b / 2 : Nat) : Int)), fun R kn ko => ?_, ⟨tw_matL k, ⟨Int.natCast_nonneg _, by show ((bsts k a : Nat) : Int) ≤ 4294967295; omega⟩, h3'⟩, by simp only [Int.toNat_natCast]; omega, ?_⟩
        · simp only [t81, hn, decide_true, cond_true, i64_and1 hb, hm, hlen, hd, Int.toNat_natCast, mul_matL k a ha]; rfl
        · simp only [Int.toNat_natCast]
          rw [← bsts_add, Nat.mul_comm 2 k, Nat.mul_assoc]
          congr 2
          rw [show b = 2 * (b / 2) + 1 by omega, Nat.mul_add, Nat.mul_one, show (2 * (b / 2) + 1) / 2 = b / 2 by omega]
          omega
    · refine .inr fun R kn ko => ?_
      simp only [t81, hn, decide_false, cond_false]
      rw [show n.toNat = 0 by omega]; rfl
  · intro s e s' h ho hh
    unfold g81 at h
    split at h
    · rename_i v n e0 xs h1 h2 h3 h4
      obtain ⟨hl, hr⟩ := LTr.br_val h
      simp only [Bool.and_eq_true, decide_eq_true_eq] at hl
      obtain ⟨hl, rfl⟩ := hl
      exact ⟨((e0, matL 8, 8), v, n), wk_st hl ⟨h1, h2, h3, trivial⟩ h4, ⟨rfl, ok_at ho h1, ok_at ho h2⟩, LTr.ret_val hr⟩
    · cases h
def cl (n : Int) : Int := if 1073741824 < if 0 > n then 0 else n then 1073741824 else if 0 > n then 0 else n
def sp81 (l : List V) (h : Heap) : Tr := match l, h with
  | [.i .u32 v, .i .i64 n], [] => .ret (.i .u32 (bsts (8 * (cl n).toNat) v.toNat : Nat)) []
  | _, _ => .no
theorem run81 (v n : Int) : runk PR O81 (byL [0, 1, 5] 0 g81) false f_sum32_noughts (f_sum32_noughts.body.getD .skip) [.i .u32 v, .i .i64 n] [] (fun r h => some (r, h)) = (sp81 [.i .u32 v, .i .i64 n] []).val := by kernel_rfl
theorem ok81 : OrcOk PR (ent i_sum32_noughts [] 0 sp81) := fn_ok okO81 mixed (L := byL [0, 1, 5] 0 g81) (kp := false) p_sum32_noughts (by kernel_rfl) (by kernel_rfl) fun l hc r h' hv ho hh => by
  have hv2 := hv
  unfold sp81 at hv
  split at hv
  · exact ⟨loopsOk1 (a := lpN f_sum32_noughts 0) (f := fun s => g81 (clean [0, 1, 5] 0 s)) (by kernel_rfl) lp81, (run81 _ _).trans hv2⟩
  · cases hv
def O32 : Orc := ent i_sum32_noughts [] 0 sp81
def sp32 (l : List V) (h : Heap) : Tr := match l, h with
  | [.i .u32 v, .i .i64 n], [] => .ret (.i .u32 (4294967295 - bsts (8 * (cl n).toNat) (4294967295 - v.toNat) : Nat)) []
  | _, _ => .no
theorem run32 (v n : Int) : runk PR O32 L0 false f_sum32_Zeros (f_sum32_Zeros.body.getD .skip) [.i .u32 v, .i .i64 n] [] (fun r h => some (r, h)) = some (.i .u32 (bits .xor .u32 4294967295 (bsts (8 * (cl n).toNat) (bits .xor .u32 4294967295 v).toNat : Nat)), []) := by kernel_rfl
theorem ok32 : OrcOk PR (ent i_sum32_Zeros [] 0 sp32) := fn_ok ok81 mixed (L := L0) (kp := false) p_sum32_Zeros (by kernel_rfl) (by kernel_rfl) fun l hc r h' hv ho hh => by
  unfold sp32 at hv
  split at hv
  · rename_i v n
    obtain ⟨rfl, rfl⟩ := Tr.ret_val hv
    refine ⟨loopsOk0 (by kernel_rfl), (run32 v n).trans ?_⟩
    obtain ⟨a, rfl, ha⟩ := u32_nat ho.1
    simp only [not32 ha, Int.toNat_natCast, not32 (bsts_lt _ (show 4294967295 - a < 4294967296 by omega))]
  · cases hv
def sp35 (l : List V) (h : Heap) : Tr := match l, h with
  | [.i .u32 a, .i .u32 b, .i .i64 n], [] => .ret (.i .u32 (bsts (8 * (cl n).toNat) a.toNat ^^^ b.toNat : Nat)) []
  | _, _ => .no
theorem run35 (a b n : Int) : runk PR O32 L0 false f_sum32_Join (f_sum32_Join.body.getD .skip) [.i .u32 a, .i .u32 b, .i .i64 n] [] (fun r h => some (r, h)) = some (.i .u32 (bits .xor .u32 (bsts (8 * (cl n).toNat) a.toNat : Nat) b), []) := by kernel_rfl
theorem ok35 : OrcOk PR (ent i_sum32_Join [] 0 sp35) := fn_ok ok81 mixed (L := L0) (kp := false) p_sum32_Join (by kernel_rfl) (by kernel_rfl) fun l hc r h' hv ho hh => by
  unfold sp35 at hv
  split at hv
  · rename_i a b n
    obtain ⟨rfl, rfl⟩ := Tr.ret_val hv
    refine ⟨loopsOk0 (by kernel_rfl), (run35 a b n).trans ?_⟩
    obtain ⟨a, rfl, ha⟩ := u32_nat ho.1
    obtain ⟨b, rfl, hb⟩ := u32_nat ho.2.1
    simp only [Int.toNat_natCast, u32_xor (bsts_lt _ ha) hb]
  · cases hv
end Go.Proofs.Ytcpicekmnkjceaa.VI
