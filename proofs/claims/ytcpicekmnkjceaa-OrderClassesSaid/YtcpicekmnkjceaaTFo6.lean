import Derived.Test.YtcpicekmnkjceaaTFo5
namespace Go.Proofs.Ytcpicekmnkjceaa.VI
set_option linter.unusedVariables false
set_option linter.unusedSimpArgs false
set_option maxRecDepth 100000
set_option linter.unusedSimpArgs false
set_option linter.unusedVariables false
def rB (b : Bool) : Option (V × Heap) := some (.b b, [])
def j1 (f x y n : Int) : Option (V × Heap) := bif n == x then rB true else bif n == y then rB true else rB (n == (RR f - 1) * BB f + BB f / 2)
def j0 (f x y m n : Int) : Option (V × Heap) := bif !lt f n m then bif m == x then j1 f x y n else bif m == y then j1 f x y n else bif m == (RR f - 1) * BB f + BB f / 2 then j1 f x y n else rB false else rB false
def T15 (f x y z : Int) : Option (V × Heap) :=
  bif lt f x y then bif lt f y x then rB false else bif decide (ky f x ≥ ky f y) then rB false else bif lt f y z then bif !lt f x z then rB false else j0 f x y (pck f x y (decide (ky f x < ky f y))) (pck f x y (decide (ky f x > ky f y)))
    else j0 f x y (pck f x y (decide (ky f x < ky f y))) (pck f x y (decide (ky f x > ky f y)))
  else j0 f x y (pck f x y (decide (ky f x < ky f y))) (pck f x y (decide (ky f x > ky f y)))
theorem run15 (k a b c : Int) : run0 PR O7 f_anneallaw7_OrderLine [.i .u8 k, .i .u32 a, .i .u32 b, .i .u32 c] [] = T15 (k % 3) (numV (k % 3) a) (numV (k % 3) b) (numV (k % 3) c) := by kernel_rfl
theorem j0_eq (f x y : Int) (hx : 0 ≤ x ∧ x < 2 * TT f) (hy : 0 ≤ y ∧ y < 2 * TT f) : j0 f x y (pck f x y (decide (ky f x < ky f y))) (pck f x y (decide (ky f x > ky f y))) = rB true := by
  obtain ⟨h1, h2, h3, _⟩ := min_max f x y hx hy
  have h3 : lt f (pck f x y (decide (ky f x > ky f y))) (pck f x y (decide (ky f x < ky f y))) = false := h3
  unfold j0
  rw [h3]
  generalize pck f x y (decide (ky f x < ky f y)) = m at *
  have e : (decide (ky f x > ky f y)) = (decide (ky f y < ky f x)) := rfl
  rw [e] at *
  generalize pck f x y (decide (ky f y < ky f x)) = n at *
  have j : j1 f x y n = rB true := by
    unfold j1
    simp only [bifI]
    split
    · rfl
    · split
      · rfl
      · rcases h2 with h | h | h
        · contradiction
        · contradiction
        · unfold IN at h; rw [h, beq_self_eq_true]
  simp only [Bool.not_false, cond_true, bifI, j]
  split
  · rfl
  · split
    · rfl
    · split
      · rfl
      · rename_i p q r
        rcases h1 with h | h | h
        · exact absurd h p
        · exact absurd h q
        · exact absurd h r
theorem plain15 (f x y z : Int) (hx : 0 ≤ x ∧ x < 2 * TT f) (hy : 0 ≤ y ∧ y < 2 * TT f) : T15 f x y z = rB true := by
  have J := j0_eq f x y hx hy
  unfold T15
  rw [J]
  cases p : lt f x y with
  | false => rfl
  | true =>
    have p1 := (lt_iff f x y).1 p
    have q : lt f y x = false := by
      cases q : lt f y x with
      | false => rfl
      | true => have := (lt_iff f y x).1 q; omega
    rw [q, show decide (ky f x ≥ ky f y) = false from decide_eq_false (by omega)]
    cases r : lt f y z with
    | false => rfl
    | true => rw [lt_trans f x y z p r]; rfl
theorem call15 : ∀ l, args [.i .u8, .i .u32, .i .u32, .i .u32] l → oks l → CallOk PR i_anneallaw7_OrderLine l [] fun r _ => r = .b true := by
  rintro l ⟨c0, l, ⟨k, hk, h0⟩, ⟨c1, l, ⟨a, ha, h1⟩, ⟨c2, l, ⟨b, hb, h2⟩, ⟨c3, l, ⟨c, hc, h3⟩, rfl, rfl⟩, rfl⟩, rfl⟩, rfl⟩ ho
  injection h0 with h0; injection h1 with h1; injection h2 with h2; injection h3 with h3; subst h0 h1 h2 h3
  exact (run_fn (hc := []) (kp := false) (L := run0.L00) okO7 mixed p_anneallaw7_OrderLine (by kernel_rfl) (by kernel_rfl) (loopsOk0 (by kernel_rfl)) (r := .b true) (h' := []) fun _ _ => (run15 k a b c).trans (plain15 _ _ _ _ (num_bd _ _) (num_bd _ _))).mono fun q _ h => h.1
end Go.Proofs.Ytcpicekmnkjceaa.VI
