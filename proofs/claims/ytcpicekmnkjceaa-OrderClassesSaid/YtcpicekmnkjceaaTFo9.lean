import Derived.Test.YtcpicekmnkjceaaTFo8
namespace Go.Proofs.Ytcpicekmnkjceaa.VI
set_option linter.unusedVariables false
set_option linter.unusedSimpArgs false
set_option maxRecDepth 100000
set_option linter.unusedSimpArgs false
set_option linter.unusedVariables false
theorem fin_part (f x : Int) (hx : 0 ≤ x ∧ x < 2 * TT f) (h : ex f x < RR f - 1) : T16 f x = rB true := by
  have h1 := (ex_fin f x).1 h
  obtain ⟨i0, i1, i2⟩ := IN_bd f
  have hT := TT_cases f
  have hTp : 0 < TT f := by omega
  have hmx : x % (2 * TT f) = x := Int.emod_eq_of_lt hx.1 hx.2
  have hm := mod_bd f x
  rw [hmx] at hm
  have hnx : nan f x = false := decide_eq_false (by omega)
  have eF : iF f false = IN f := by unfold iF IN; simp
  have eT : iF f true = IN f + TT f := by unfold iF IN; simp
  have mF : IN f % TT f = IN f := Int.emod_eq_of_lt (by omega) (by omega)
  have mF2 : IN f % (2 * TT f) = IN f := Int.emod_eq_of_lt (by omega) (by omega)
  have mT2 : (IN f + TT f) % (2 * TT f) = IN f + TT f := Int.emod_eq_of_lt (by omega) (by omega)
  have mT : (IN f + TT f) % TT f = IN f := by rw [Int.add_emod_right]; exact mF
  have kF : ky f (IN f) = IN f := by rw [ky_pos f _ (by omega) (by omega), mF]
  have kT' : ky f (IN f + TT f) = -1 - IN f := by rw [ky_neg f _ (by omega) (by omega), mT]
  have nF : nan f (IN f) = false := decide_eq_false (by omega)
  have nT' : nan f (IN f + TT f) = false := decide_eq_false (by omega)
  have zF : zr f (IN f) = false := decide_eq_false (by omega)
  have zT : zr f (IN f + TT f) = false := decide_eq_false (by omega)
  have b0 : 0 ≤ x % TT f := Int.emod_nonneg _ (by omega)
  have kx : ky f x = (if TT f ≤ x then -1 - x % TT f else x % TT f) := by
    split
    · rename_i g; exact ky_neg f x (by omega) hx.1
    · rename_i g; exact ky_pos f x (by omega) hx.1
  have l1 : lt f x (IN f) = true := (lt_iff f x (IN f)).2 ⟨hnx, nF, by rw [zF]; simp, by rw [kF, kx]; split <;> omega⟩
  have l2 : lt f (IN f + TT f) x = true := (lt_iff f _ x).2 ⟨nT', hnx, by rw [zT]; simp, by rw [kT', kx]; split <;> omega⟩
  have hT2 : ∃ k : Nat, k < 32 ∧ (2 : Int) ^ k = TT f := by
    rcases hT with h | h
    · exact ⟨15, by decide, by rw [h]; rfl⟩
    · exact ⟨31, by decide, by rw [h]; rfl⟩
  obtain ⟨k, hk, hkT⟩ := hT2
  have hX : bits .xor .u32 x (TT f) = if x < TT f then x + TT f else x - TT f := by
    have := xor_top32 x k hk hx.1 (by rw [hkT]; exact hx.2)
    rwa [hkT] at this
  have l3 : IntKind.i64.wrap (ky f x + ky f (bits .xor .u32 x (if true = true then TT f else 0))) = -1 := by
    rw [if_pos rfl, hX]
    by_cases g : x < TT f
    · rw [if_pos g, ky_neg f (x + TT f) (by rw [Int.emod_eq_of_lt (by omega) (by omega)]; omega) (by omega), Int.add_emod_right, kx, if_neg (by omega)]
      exact w64_id (by omega) |>.trans (by omega)
    · rw [if_neg g, ky_pos f (x - TT f) (by rw [Int.emod_eq_of_lt (by omega) (by omega)]; omega) (by omega), kx, if_pos (by omega)]
      have : (x - TT f) % TT f = x % TT f := by rw [Int.sub_emod_right]
      rw [this]
      exact w64_id (by omega) |>.trans (by omega)
  have l4 : pck f x (IN f) (decide (ky f x > ky f (IN f))) = IN f := by
    have := ((lt_iff f x (IN f)).1 l1).2.2.2
    rw [decide_eq_false (by omega)]
    unfold pck; rw [hnx, nF, mF2]; rfl
  have l5 : ∀ t, pck f x ((RR f - 1) * BB f + BB f / 2) t = x := fun t => by
    have hn : nan f ((RR f - 1) * BB f + BB f / 2) = true := nan_nan f
    unfold pck; rw [hnx, hn, hmx]; rfl
  unfold T16
  rw [decide_eq_true h, eF, eT, l1, l2, l3, l4, l5]
  simp only [Bool.not_true, cond_false, aud, cond_true, beq_self_eq_true]
end Go.Proofs.Ytcpicekmnkjceaa.VI
