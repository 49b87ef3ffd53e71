import Derived.Test.YtcpicekmnkjceaaTSm7
namespace Go.Proofs.Ytcpicekmnkjceaa.VI
set_option linter.unusedVariables false
set_option linter.unusedSimpArgs false
set_option maxRecDepth 100000
set_option linter.unusedSimpArgs false
set_option linter.unusedVariables false
abbrev Aj := Nat × List Int × Int × Int
def S33a (a : Aj) : St := ⟨fr 36 [(0, .si a.1 .u8 a.2.1), (3, .i .u32 a.2.2.1), (4, .i .i64 a.2.2.2)], []⟩
def E33a (b : Int) : Ex × St := (.exit 0, ⟨fr 36 [(3, .i .u32 b)], []⟩)
def t33a {R : Type} (a : Aj) (kn : Aj → Option R) (ko : Int → Option R) : Option R := bif decide (a.2.2.2 < a.1) then bif decide (0 ≤ a.2.2.2 ∧ a.2.2.2 < (a.1 : Int) ∧ a.1 ≤ a.2.1.length) then
    kn (a.1, a.2.1, (bsts 8 (a.2.2.1.toNat ^^^ (a.2.1.getD a.2.2.2.toNat 0).toNat) : Nat), IntKind.i64.wrap (a.2.2.2 + 1)) else none else ko a.2.2.1
theorem st33a (a : Aj) (R : Type) (K : Ex → St → Option R) : rndk PR orn (byL [0, 3, 4, 5] 0 g33b) 0 0 [0, 3, 4] [3] (lpN f_annealref24_Sum 0) (S33a a) K = t33a a (fun v => K .normal (S33a v)) (fun b => K (E33a b).1 (E33a b).2) := by
  obtain ⟨n, xs, v, i⟩ := a
  kernel_rfl
def g33a (s : St) : LTr := match s.t.getD 0 .u, s.t.getD 3 .u, s.t.getD 4 .u, s.h with
  | .si n .u8 xs, .i .u32 v, .i .i64 0, [] => .br (Nat.beq s.t.length 36 && Nat.ble n xs.length) (.ret (.exit 0) ⟨fr 36 [(3, .i .u32 (crc v.toNat (xs.take n) : Nat))], []⟩) .no
  | _, _, _, _ => .no
theorem lp33a : LoopOk PR 0 (lpN f_annealref24_Sum 0) fun s => g33a (clean [0, 3, 4] 0 s) := by
  refine loop_fin (orn_ok _) mixed (L := byL [0, 3, 4, 5] 0 g33b) (d := 0) (ks2 := [3]) (loopsOk1 (a := lpN f_annealref24_Sum 1) (f := fun s => g33b (clean [0, 3, 4, 5] 0 s)) (by kernel_rfl) lp33b) (E := E33a) (fun b => by simp [E33a]) st33a
    (fun a => inR .u32 a.2.2.1 ∧ a.1 ≤ a.2.1.length ∧ 0 ≤ a.2.2.2 ∧ a.2.2.2 ≤ a.1 ∧ (a.1 : Int) ≤ 9223372036854775807 ∧ ∀ c ∈ a.2.1, inR .u8 c) (fun a => (a.1 - a.2.2.2).toNat) (fun a => (crc a.2.2.1.toNat ((a.2.1.take a.1).drop a.2.2.2.toNat) : Nat)) ?_ ?_
  · rintro ⟨n, xs, v, i⟩ ⟨h1, h3, h4, h5, h6, h7⟩
    simp only at h1 h3 h4 h5 h6 h7
    obtain ⟨a, rfl, ha⟩ := u32_nat h1
    by_cases hj : i < n
    · have hx : i.toNat < xs.length := by omega
      obtain ⟨c, hc, hc'⟩ := u8_nat (h7 _ (List.getElem_mem hx))
      have hg : xs.getD i.toNat 0 = (c : Int) := by rw [List.getD_eq_getElem?_getD, List.getElem?_eq_getElem hx, hc]; rfl
      have hlt := bsts_lt 8 (u32_xor_lt ha (show c < 4294967296 by omega))
      refine .inl ⟨(n, xs, (bsts 8 (a ^^^ c) : Nat), i + 1), fun R kn ko => ?_, ⟨⟨Int.natCast_nonneg _, ?_⟩, h3, by simp only; omega, by simp only; omega, h6, h7⟩, by simp only; omega, ?_⟩
      · simp only [t33a, hj, h4, h3, and_self, decide_true, cond_true, hg, Int.toNat_natCast]
        rw [w64_id (by omega)]
      · show ((bsts 8 (a ^^^ c) : Nat) : Int) ≤ 4294967295; omega
      · simp only [Int.toNat_natCast]
        have hd : (xs.take n).drop i.toNat = (c : Int) :: (xs.take n).drop (i + 1).toNat := by
          rw [List.drop_eq_getElem_cons (by simp; omega), show (i + 1).toNat = i.toNat + 1 by omega]
          congr 1
          rw [List.getElem_take, hc]
        rw [hd]; simp only [crc, Int.toNat_natCast]
    · refine .inr fun R kn ko => ?_
      simp only [t33a, hj, decide_false, cond_false]
      rw [List.drop_of_length_le (by simp; omega)]
      simp [crc]
  · intro s e s' h ho hh
    unfold g33a at h
    split at h
    · rename_i n xs v h1 h2 h3 h4
      obtain ⟨hl, hr⟩ := LTr.br_val h
      simp only [Bool.and_eq_true] at hl
      obtain ⟨hl, hn⟩ := hl
      have ho1 := ok_at ho h1
      exact ⟨(n, xs, v, 0), wk_st hl ⟨h1, h2, h3, trivial⟩ h4, ⟨ok_at ho h2, Nat.le_of_ble_eq_true hn, Int.le_refl 0, Int.natCast_nonneg n, Int.ofNat_le.2 ho1.1, ho1.2⟩, LTr.ret_val hr⟩
    · cases h
def L33 : Lps := byL [0, 3, 4] 0 g33a
theorem run33 (n : Nat) (xs : List Int) : runk PR orn L33 false f_annealref24_Sum (f_annealref24_Sum.body.getD .skip) [.si n .u8 xs] [] (fun r h => some (r, h)) = bif Nat.ble n xs.length then some (.i .u32 (bits .xor .u32 4294967295 (crc 4294967295 (xs.take n) : Nat)), []) else none := by kernel_rfl
theorem ok33 : OrcOk PR (ent i_annealref24_Sum [] 0 sp22) := fn_ok (orn_ok _) mixed (L := L33) (kp := false) p_annealref24_Sum (by kernel_rfl) (by kernel_rfl) fun l hc r h' hv ho hh => by
  unfold sp22 at hv
  split at hv
  · rename_i n xs
    obtain ⟨hb, hv⟩ := Tr.br_val hv
    obtain ⟨rfl, rfl⟩ := Tr.ret_val hv
    refine ⟨loopsOk1 (a := lpN f_annealref24_Sum 0) (f := fun s => g33a (clean [0, 3, 4] 0 s)) (by kernel_rfl) lp33a, (run33 n xs).trans ?_⟩
    have hl := crc_lt (xs.take n) (show 4294967295 < 4294967296 by decide) fun c hc => ho.1.2 c (List.mem_of_mem_take hc)
    simp only [hb, cond_true, not32 hl]
  · cases hv
end Go.Proofs.Ytcpicekmnkjceaa.VI
