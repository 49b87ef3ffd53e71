import Derived.Test.YtcpicekmnkjceaaF1
import Derived.Test.YtcpicekmnkjceaaS8
namespace Go.Proofs.Ytcpicekmnkjceaa.VI
set_option linter.unusedVariables false
set_option linter.unusedSimpArgs false
open Go.ChangeShapes Go.WideShapes Go.RowKit Go.WideElems Ytcpicekmnkjceaa
set_option maxRecDepth 100000
theorem fal_true {a b c d : Int} (ha : 0 ≤ a ∧ a < 256) (hb : 0 ≤ b ∧ b < 256) (hc : 0 ≤ c ∧ c < 256) (hd : 0 ≤ d ∧ d < 256) : ∀ (m : Nat) (l k n : Int), cMin b ≤ l → l ≤ cMax a b → 0 ≤ k → k ≤ 100 - m → 0 ≤ n → n ≤ 100 - m → m ≤ 26 → l - cMin b < m →
    n + (l - cMin b + cBack b - 1) / cBack b = (cLog a b c - cMin b + cBack b - 1) / cBack b → fal a b c d m l 0 k k n = some (.b true)
  | 0, l, k, n, h1, _, _, _, _, _, _, h2, _ => by omega
  | m + 1, l, k, n, h1, h2, h3, h4, h5, h6, h7, h8, h9 => by
    have ih := fal_true ha hb hc hd m
    obtain ⟨f1, f2, f3, f4, f5, f6⟩ := conf_facts ha hb hc hd
    have e6 : 0 ≤ c % (a % 25 + 1) ∧ c % (a % 25 + 1) < a % 25 + 1 := ⟨Int.emod_nonneg _ (by omega), Int.emod_lt_of_pos _ (by omega)⟩
    have hr : rgt (cMin b) (cMax a b) (cInt d) l 0 k k = true := by
      simp only [rgt, Bool.and_eq_true, decide_eq_true_eq]; omega
    have hw : IntKind.i64.wrap (l - cBack b) = l - cBack b := by rw [wrap_i64]; omega
    have eL : kL (cMin b) (cMax a b) (cBack b) (cInt d) l 0 k k = if cMin b > l - cBack b then cMin b else l - cBack b := by unfold kL; rw [hr, cond_true, hw]
    unfold fal
    by_cases hl : l > cMin b
    · rw [decide_eq_true hl, cond_true]
      have eG : kG (cMin b) (cMax a b) (cInt d) l 0 k k = 0 := by unfold kG; rw [hr, cond_true]
      have eK : kK (cMin b) (cMax a b) (cInt d) l 0 k k = k + 1 := by unfold kK; rw [hr, cond_true, if_neg (by omega)]
      have eR : kR (cMin b) (cMax a b) (cInt d) l 0 k k = k + 1 := by unfold kR; rw [hr, cond_true, if_neg (by omega)]
      rw [eL, eG, eK, eR, w64_id (by omega) (by omega)]
      have hbk : cBack b = 1 ∨ cBack b = 2 ∨ cBack b = 3 := by omega
      by_cases hx : cMin b > l - cBack b
      · rw [if_pos hx]
        refine ih _ _ _ (by omega) (by omega) (by omega) (by omega) (by omega) (by omega) (by omega) (by omega) ?_
        rw [← h9]
        rcases hbk with e | e | e <;> rw [e] at hx ⊢ <;> omega
      · rw [if_neg hx]
        refine ih _ _ _ (by omega) (by omega) (by omega) (by omega) (by omega) (by omega) (by omega) (by omega) ?_
        rw [← h9]
        rcases hbk with e | e | e <;> rw [e] at hx ⊢ <;> omega
    · rw [decide_eq_false hl, cond_false]
      have hl' : l = cMin b := by omega
      subst hl'
      have e0 : (cBack b == 0) = false := by rw [beq_eq_false_iff_ne]; omega
      have e1 : w64 ((w64 (w64 (w64 (cLog a b c - cMin b) + cBack b) - 1)).tdiv (cBack b)) = (cLog a b c - cMin b + cBack b - 1) / cBack b := by
        rw [w64_id (n := cLog a b c - cMin b) (by omega) (by omega), w64_id (n := cLog a b c - cMin b + cBack b) (by omega) (by omega), w64_id (n := cLog a b c - cMin b + cBack b - 1) (by omega) (by omega), td (by omega), ← h9]
        have hbk : cBack b = 1 ∨ cBack b = 2 ∨ cBack b = 3 := by omega
        rcases hbk with e | e | e <;> rw [e] <;> rw [w64_id (by omega) (by omega)]
      have e2 : n = (cLog a b c - cMin b + cBack b - 1) / cBack b := by
        rw [← h9]
        have hbk : cBack b = 1 ∨ cBack b = 2 ∨ cBack b = 3 := by omega
        rcases hbk with e | e | e <;> rw [e] <;> omega
      rw [e0, cond_false, e1, ← e2, eL, if_pos (by omega)]
      simp
theorem call6 {a b c d : Int} (ha : 0 ≤ a ∧ a < 256) (hb : 0 ≤ b ∧ b < 256) (hc : 0 ≤ c ∧ c < 256) (hd : 0 ≤ d ∧ d < 256) :
    CallOk Try.prog 6 [.i .u8 a, .i .u8 b, .i .u8 c, .i .u8 d] fun r => r = .b true := by
  refine run_fn orcT_ok mixed Try.func6 (by kernel_rfl) (by kernel_rfl) ((run6 a b c d).trans ?_)
  rw [show pre24 a b c d = true from decide_eq_true ⟨ha.1, ha.2, hb.1, hb.2, hc.1, hc.2, hd.1, hd.2⟩, cond_true]
  obtain ⟨f1, f2, f3, f4, f5, f6⟩ := conf_facts ha hb hc hd
  have e6 : 0 ≤ c % (a % 25 + 1) ∧ c % (a % 25 + 1) < a % 25 + 1 := ⟨Int.emod_nonneg _ (by omega), Int.emod_lt_of_pos _ (by omega)⟩
  exact fal_true ha hb hc hd 26 _ 0 0 (by omega) (by omega) (by omega) (by omega) (by omega) (by omega) (by omega) (by omega) (by omega)
theorem lifted6 (os : Os) (started : os.Started) (H : Type) (enc : TypeId × Value → H) :
    ReturnsInHanded {} Try.checked os 6 .any (Rows.scalerFallsSpec.pre6 enc Try.prog Try.f6 Rows.scalerFallsRow.domain false) (Rows.scalerFallsSpec.post enc Try.prog Try.f6 false true false false) := by
  refine lift_true (C := Try.checked) own started (by kernel_rfl) Try.func6
    (ChangeSpec.witness6 (enc := enc) (C := Try.checked) false ⟨#[], #[.int .u8 0, .int .u8 0, .int .u8 0, .int .u8 0], []⟩ 8 (by kernel_rfl) (by kernel_rfl) (by kernel_rfl) (by kernel_rfl))
    laid Try.underlying4 rfl (by kernel_rfl) rfl (fun ds hd => ?_) ?_
  · match ds, hd with
    | [_, _, _, _], _ => rfl
  · intro W base args ds p hval hA
    have e : Try.f6.params.toList = [5, 5, 5, 5] := rfl
    rw [e] at hA
    rw [Try.params6] at hval
    obtain ⟨v0, vs0, d0, ds0, p0, q0, hargs, rfl, rfl, h0, r0⟩ := trodAll_cons hA
    obtain ⟨v1, vs1, d1, ds1, p1, q1, rfl, rfl, rfl, h1, r1⟩ := trodAll_cons r0
    obtain ⟨v2, vs2, d2, ds2, p2, q2, rfl, rfl, rfl, h2, r2⟩ := trodAll_cons r1
    obtain ⟨v3, vs3, d3, ds3, p3, q3, rfl, rfl, rfl, h3, r3⟩ := trodAll_cons r2
    obtain ⟨rfl, rfl, rfl⟩ := trodAll_nil r3
    obtain rfl : args = #[v0, v1, v2, v3] := by cases args; simp_all
    obtain ⟨a0, rfl, _, _, w0⟩ := open_int Try.underlying5 (hval 0 5 v0 rfl rfl) h0
    obtain ⟨a1, rfl, _, _, w1⟩ := open_int Try.underlying5 (hval 1 5 v1 rfl rfl) h1
    obtain ⟨a2, rfl, _, _, w2⟩ := open_int Try.underlying5 (hval 2 5 v2 rfl rfl) h2
    obtain ⟨a3, rfl, _, _, w3⟩ := open_int Try.underlying5 (hval 3 5 v3 rfl rfl) h3
    exact true_of_call (call6 (u8_of w0) (u8_of w1) (u8_of w2) (u8_of w3)) ⟨_, _, rfl, rfl, _, _, rfl, rfl, _, _, rfl, rfl, _, _, rfl, rfl, rfl⟩
theorem over6 : Rows.scalerFallsRow.holds Try.pinned (OpenSpec.ofChange Rows.scalerFallsSpec) :=
  OpenClaim.holds_of_wide 6 Try.f6 rfl rfl rfl rfl rfl rfl rfl ⟨rfl, rfl, rfl, rfl, rfl⟩ rfl rfl rfl rfl rfl (by kernel_rfl) Try.func6 (by kernel_rfl)
    (of_decide_eq_true (by kernel_rfl)) (by unfold Func.isWrapper; first | (rw [if_pos (by decide +kernel)]; kernel_rfl) | (rw [if_neg (by decide +kernel)]; exact ⟨rfl, rfl⟩))
    (fun os started H enc _ => lifted6 os started H enc)
end Go.Proofs.Ytcpicekmnkjceaa.VI
