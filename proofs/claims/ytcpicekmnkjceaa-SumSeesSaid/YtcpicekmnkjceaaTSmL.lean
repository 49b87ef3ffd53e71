import Derived.Test.YtcpicekmnkjceaaTSm8
namespace Go.Proofs.Ytcpicekmnkjceaa.VI
set_option linter.unusedVariables false
set_option linter.unusedSimpArgs false
set_option maxRecDepth 100000
set_option linter.unusedSimpArgs false
set_option linter.unusedVariables false
def sp21 (l : List V) (h : Heap) : Tr := match l, h with
  | [], [] => .ret (.b true) []
  | _, _ => .no
theorem ok21 : OrcOk PR (ent i_anneallaw27_known [] 0 sp21) := fn_ok ok22 mixed (L := L0) (kp := false) p_anneallaw27_known (by kernel_rfl) (by kernel_rfl) fun l hc r h' hv ho hh => by
  unfold sp21 at hv
  split at hv
  · obtain ⟨rfl, rfl⟩ := Tr.ret_val hv
    exact ⟨loopsOk0 (by kernel_rfl), by kernel_rfl⟩
  · cases hv
def zer (n : Int) (s : Nat) : Nat := 4294967295 - bsts (8 * (cl n).toNat) (4294967295 - s)
theorem zer_lt (n : Int) (s : Nat) : zer n s < 4294967296 := by unfold zer; omega
theorem run8 (s n m : Int) : runk PR (ors (ent i_anneallaw27_known [] 0 sp21) (ent i_sum32_Zeros [] 0 sp32)) L0 false f_anneallaw27_SumLong (f_anneallaw27_SumLong.body.getD .skip) [.i .u32 s, .i .u32 n, .i .u16 m] [] (fun r h => some (r, h)) =
  bif ((zer (IntKind.i64.wrap m) ((zer (IntKind.i64.wrap (n.tmod 262144)) s.toNat : Nat) : Int).toNat : Nat) : Int) == (zer (IntKind.i64.wrap (IntKind.i64.wrap (n.tmod 262144) + IntKind.i64.wrap m)) s.toNat : Nat) then
    bif ((zer 0 s.toNat : Nat) : Int) == s then
      some (V.b (((zer (IntKind.i64.wrap (0 - IntKind.i64.wrap (n.tmod 262144))) s.toNat : Nat) : Int) == s), [])
    else some (V.b false, [])
  else some (V.b false, []) := by kernel_rfl
theorem cl_id {n : Int} (h : 0 ≤ n ∧ n ≤ 1073741824) : cl n = n := by unfold cl; (repeat' split) <;> omega
theorem cl_neg {n : Int} (h : n ≤ 0) : cl n = 0 := by unfold cl; (repeat' split) <;> omega
theorem call8 : ∀ l, args [.i .u32, .i .u32, .i .u16] l → oks l → CallOk PR i_anneallaw27_SumLong l [] fun r _ => r = .b true := by
  rintro l ⟨c0, l, ⟨s, hs, h0⟩, ⟨c1, l, ⟨n, hn, h1⟩, ⟨c2, l, ⟨m, hm, h2⟩, rfl, rfl⟩, rfl⟩, rfl⟩ ho
  injection h0 with h0; injection h1 with h1; injection h2 with h2; subst h0 h1 h2
  refine (run_fn (kp := false) (L := L0) (ors_ok ok21 ok32) mixed p_anneallaw27_SumLong (by kernel_rfl) (by kernel_rfl) (loopsOk0 (by kernel_rfl)) (r := .b true) (h' := []) fun _ _ => (run8 s n m).trans ?_).mono fun q _ h => h.1
  obtain ⟨s, rfl, hs'⟩ := u32_nat hs
  obtain ⟨n, rfl, hn'⟩ := u32_nat hn
  have hm : 0 ≤ m ∧ m ≤ 65535 := hm
  obtain ⟨m, rfl⟩ := Int.eq_ofNat_of_zero_le hm.1
  have e1 : ((n : Int)).tmod 262144 = ((n % 262144 : Nat) : Int) := by
    rw [Int.tmod_eq_emod_of_nonneg (by omega)]; rfl
  rw [e1, w64_id (n := (m : Int)) (by omega), w64_id (n := ((n % 262144 : Nat) : Int)) (by omega), w64_id (n := 0 - ((n % 262144 : Nat) : Int)) (by omega), w64_id (n := ((n % 262144 : Nat) : Int) + (m : Int)) (by omega)]
  have z0 : ∀ k : Int, k ≤ 0 → zer k s = s := fun k hk => by
    unfold zer; rw [cl_neg hk]; show 4294967295 - bsts 0 _ = s; simp only [bsts]; omega
  have zz : zer (m : Int) (zer ((n % 262144 : Nat) : Int) s) = zer (((n % 262144 : Nat) : Int) + (m : Int)) s := by
    have hb := bsts_lt (8 * (n % 262144)) (show 4294967295 - s < 4294967296 by omega)
    unfold zer
    rw [cl_id (n := (m : Int)) (by omega), cl_id (n := ((n % 262144 : Nat) : Int)) (by omega), cl_id (n := ((n % 262144 : Nat) : Int) + (m : Int)) (by omega)]
    rw [Int.toNat_natCast, Int.toNat_natCast, show (((n % 262144 : Nat) : Int) + (m : Int)).toNat = n % 262144 + m by omega]
    rw [show 4294967295 - (4294967295 - bsts (8 * (n % 262144)) (4294967295 - s)) = bsts (8 * (n % 262144)) (4294967295 - s) by omega, ← bsts_add, Nat.mul_add]
  simp only [Int.toNat_natCast, zz, z0 0 (Int.le_refl _), z0 (0 - ((n % 262144 : Nat) : Int)) (by omega), beq_self_eq_true, cond_true]
end Go.Proofs.Ytcpicekmnkjceaa.VI
