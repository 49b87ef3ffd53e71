import Derived.Test.YtcpicekmnkjceaaTFo7
namespace Go.Proofs.Ytcpicekmnkjceaa.VI
set_option linter.unusedVariables false
set_option linter.unusedSimpArgs false
set_option maxRecDepth 100000
set_option linter.unusedSimpArgs false
set_option linter.unusedVariables false
theorem ky_pos (f x : Int) (h : x % (2 * TT f) < TT f) (h0 : 0 ≤ x) : ky f x = x % TT f := by
  unfold ky
  rw [if_neg (fun z => by have := (sg_iff f x h0).1 z; omega)]
theorem ky_neg (f x : Int) (h : TT f ≤ x % (2 * TT f)) (h0 : 0 ≤ x) : ky f x = -1 - x % TT f := by
  unfold ky
  rw [if_pos ((sg_iff f x h0).2 h)]
theorem IN_bd (f : Int) : 0 < IN f ∧ IN f + BB f / 2 < TT f ∧ 0 < BB f / 2 := by
  refine f3 f (fun h => ?_) (fun h => ?_) (fun _ _ h0 h1 => ?_)
  · subst h; decide
  · subst h; decide
  · obtain ⟨e1, e2, e3, _⟩ := oth h0 h1
    unfold IN; rw [e1, e2, e3]; decide
theorem inf_part (f x : Int) (h : ¬ ex f x < RR f - 1) : T16 f x = rB true := by
  have h1 := ex_fin f x
  have h2 := kl_inf f x
  have hn : nan f x = decide (IN f < x % TT f) := rfl
  unfold T16
  rw [decide_eq_false h]
  simp only [Bool.not_false, cond_true]
  by_cases hk : kl f x = 3
  · have : nan f x = false := by rw [hn]; exact decide_eq_false (by have := h2.1 hk; omega)
    have hc : (cmp f x x).2 = true := by
      unfold cmp
      rw [this]
      (repeat' split) <;> first | rfl | simp_all
    rw [hc, hk]; rfl
  · have h4 : ¬ x % TT f = IN f := fun z => hk (h2.2 z)
    have : nan f x = true := by rw [hn]; exact decide_eq_true (by have := fun z => h (h1.2 z); omega)
    have hc : (cmp f x x).2 = false := by unfold cmp; rw [this]; rfl
    have l1 : lt f x 0 = false := by
      cases q : lt f x 0 with
      | false => rfl
      | true => have := ((lt_iff f x 0).1 q).1; simp_all
    have l2 : lt f 0 x = false := by
      cases q : lt f 0 x with
      | false => rfl
      | true => have := ((lt_iff f 0 x).1 q).2.1; simp_all
    have hk' : (kl f x == 3) = false := by simpa using hk
    rw [hc, hk', l1, l2]; rfl
end Go.Proofs.Ytcpicekmnkjceaa.VI
