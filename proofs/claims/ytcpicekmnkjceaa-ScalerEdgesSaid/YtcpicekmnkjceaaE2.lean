import Derived.Test.YtcpicekmnkjceaaE1
import Derived.Test.YtcpicekmnkjceaaS8
namespace Go.Proofs.Ytcpicekmnkjceaa.VI
set_option linter.unusedVariables false
set_option linter.unusedSimpArgs false
open Go.ChangeShapes Go.WideShapes Go.RowKit Go.WideElems Ytcpicekmnkjceaa
set_option maxRecDepth 100000
theorem edg_no {a b c d s1 s2 s3 s4 y1 y2 y3 y4 : Int} (h : rgt (cMin b) (cMax a b) (cInt d) y1 y2 y3 y4 = false) (K : Option V) : edg a b c d s1 s2 s3 s4 y1 y2 y3 y4 K = K := by
  unfold edg goodV skipV
  rw [h]
  simp only [cond_false, eqS_scl, Bool.not_true]
theorem edg_self (a b c d s1 s2 s3 s4 : Int) (K : Option V) : edg a b c d s1 s2 s3 s4 s1 s2 s3 s4 K = K := by
  cases h : rgt (cMin b) (cMax a b) (cInt d) s1 s2 s3 s4 with
  | false => exact edg_no h K
  | true =>
    unfold edg
    rw [h]
    simp only [cond_true, eqS_scl, Bool.not_true, cond_false]
theorem call7 {a b c d : Int} (ha : 0 ≤ a ∧ a < 256) (hb : 0 ≤ b ∧ b < 256) (hc : 0 ≤ c ∧ c < 256) (hd : 0 ≤ d ∧ d < 256) (s1 s2 s3 s4 : Int) :
    CallOk Try.prog 7 [.i .u8 a, .i .u8 b, .i .u8 c, .i .u8 d, scl s1 s2 s3 s4] fun r => r = .b true := by
  refine run_fn orcT_ok mixed Try.func7 (by kernel_rfl) (by kernel_rfl) ((run7 a b c d s1 s2 s3 s4).trans ?_)
  rw [show pre24 a b c d = true from decide_eq_true ⟨ha.1, ha.2, hb.1, hb.2, hc.1, hc.2, hd.1, hd.2⟩]
  obtain ⟨f1, f2, f3, f4, f5, f6⟩ := conf_facts ha hb hc hd
  have e6 : 0 ≤ c % (a % 25 + 1) ∧ c % (a % 25 + 1) < a % 25 + 1 := ⟨Int.emod_nonneg _ (by omega), Int.emod_lt_of_pos _ (by omega)⟩
  have no : ∀ y1 y2 y3 y4 : Int, ¬ (y1 ≥ cMin b ∧ y1 ≤ cMax a b ∧ y2 ≥ 0 ∧ y2 < cInt d ∧ y3 ≥ 0 ∧ y3 ≤ 4611686018427387904 ∧ y4 ≥ 0 ∧ y4 ≤ y3) → rgt (cMin b) (cMax a b) (cInt d) y1 y2 y3 y4 = false := by
    intro y1 y2 y3 y4 h
    rw [Bool.eq_false_iff]
    intro hr
    simp only [rgt, Bool.and_eq_true, decide_eq_true_eq] at hr
    exact h (by omega)
  have g1 : w64 (cMin b - 1) = b % 3 - 1 := by rw [f1]; unfold w64; rw [wrap_i64]; omega
  have g2 : w64 (cMax a b + 1) = b % 3 + a % 25 + 1 := by rw [f2, w64_id (by omega) (by omega)]
  rw [cond_true, edg_no (no _ _ _ _ (by rw [g1, f1]; omega)), edg_no (no _ _ _ _ (by rw [g2, f2]; omega)), edg_no (no _ _ _ _ (by omega)), edg_no (no _ _ _ _ (by omega)), edg_no (no _ _ _ _ (by omega)), edg_no (no _ _ _ _ (by omega)), edg_self]
theorem lifted7 (os : Os) (started : os.Started) (H : Type) (enc : TypeId × Value → H) :
    ReturnsInHanded {} Try.checked os 7 .any (Rows.scalerEdgesSpec.pre6 enc Try.prog Try.f7 Rows.scalerEdgesRow.domain false) (Rows.scalerEdgesSpec.post enc Try.prog Try.f7 false true false false) := by
  refine lift_true (C := Try.checked) own started (by kernel_rfl) Try.func7
    (ChangeSpec.witness6 (enc := enc) (C := Try.checked) false ⟨#[], #[.int .u8 0, .int .u8 0, .int .u8 0, .int .u8 0, .agg #[.int .i64 0, .int .i64 0, .int .i64 0, .int .i64 0]], []⟩ 8 (by kernel_rfl) (by kernel_rfl) (by kernel_rfl) (by kernel_rfl))
    laid Try.underlying4 rfl (by kernel_rfl) rfl (fun ds hd => ?_) ?_
  · match ds, hd with
    | [_, _, _, _, _], _ => rfl
  · intro W base args ds p hval hA
    have e : Try.f7.params.toList = [5, 5, 5, 5, 29] := rfl
    rw [e] at hA
    rw [Try.params7] at hval
    obtain ⟨v0, vs0, d0, ds0, p0, q0, hargs, rfl, rfl, h0, r0⟩ := trodAll_cons hA
    obtain ⟨v1, vs1, d1, ds1, p1, q1, rfl, rfl, rfl, h1, r1⟩ := trodAll_cons r0
    obtain ⟨v2, vs2, d2, ds2, p2, q2, rfl, rfl, rfl, h2, r2⟩ := trodAll_cons r1
    obtain ⟨v3, vs3, d3, ds3, p3, q3, rfl, rfl, rfl, h3, r3⟩ := trodAll_cons r2
    obtain ⟨v4, vs4, d4, ds4, p4, q4, rfl, rfl, rfl, h4, r4⟩ := trodAll_cons r3
    obtain ⟨rfl, rfl, rfl⟩ := trodAll_nil r4
    obtain rfl : args = #[v0, v1, v2, v3, v4] := by cases args; simp_all
    obtain ⟨a0, rfl, _, _, w0⟩ := open_int Try.underlying5 (hval 0 5 v0 rfl rfl) h0
    obtain ⟨a1, rfl, _, _, w1⟩ := open_int Try.underlying5 (hval 1 5 v1 rfl rfl) h1
    obtain ⟨a2, rfl, _, _, w2⟩ := open_int Try.underlying5 (hval 2 5 v2 rfl rfl) h2
    obtain ⟨a3, rfl, _, _, w3⟩ := open_int Try.underlying5 (hval 3 5 v3 rfl rfl) h3
    obtain ⟨s1, s2, s3, s4, rfl⟩ := open_scale (hval 4 29 v4 rfl rfl) h4
    exact true_of_call (call7 (u8_of w0) (u8_of w1) (u8_of w2) (u8_of w3) s1 s2 s3 s4)
      ⟨_, _, rfl, rfl, _, _, rfl, rfl, _, _, rfl, rfl, _, _, rfl, rfl, _, _, rfl, ⟨_, rfl, _, _, rfl, rfl, _, _, rfl, rfl, _, _, rfl, rfl, _, _, rfl, rfl, rfl⟩, rfl⟩
theorem over7 : Rows.scalerEdgesRow.holds Try.pinned (OpenSpec.ofChange Rows.scalerEdgesSpec) :=
  OpenClaim.holds_of_wide 7 Try.f7 rfl rfl rfl rfl rfl rfl rfl ⟨rfl, rfl, rfl, rfl, rfl⟩ rfl rfl rfl rfl rfl (by kernel_rfl) Try.func7 (by kernel_rfl)
    (of_decide_eq_true (by kernel_rfl)) (by unfold Func.isWrapper; first | (rw [if_pos (by decide +kernel)]; kernel_rfl) | (rw [if_neg (by decide +kernel)]; exact ⟨rfl, rfl⟩))
    (fun os started H enc _ => lifted7 os started H enc)
end Go.Proofs.Ytcpicekmnkjceaa.VI
