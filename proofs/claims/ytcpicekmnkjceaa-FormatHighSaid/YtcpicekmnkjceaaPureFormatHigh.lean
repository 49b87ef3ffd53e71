/- Bits above a half's or a brain's sixteen change nothing that Class and Unpack tell: for all inputs, no condition. -/
import Derived.Test.YtcpicekmnkjceaaSA
import Derived.Test.YtcpicekmnkjceaaPFormatHighx2
namespace Go.Proofs.Ytcpicekmnkjceaa.Pure
open Go.RowKit Go.Proofs.Ytcpicekmnkjceaa.PFormatHigh Go.Proofs.YtcpicekmnkjceaaW.PrintWords Go.Proofs.YtcpicekmnkjceaaW.PrintLast Go.Proofs.YtcpicekmnkjceaaW.PrintMore Go.Proofs.Ytcpicekmnkjceaa.SA
set_option linter.unusedSimpArgs false
set_option linter.unusedVariables false
theorem widths (f : Int) : format_Widths.f f = some (EE f, MM f) := by
  unfold format_Widths.f EE MM; split <;> (try split) <;> simp_all
theorem parts (f x : Int) (h0 : 0 ≤ x) (h1 : x < 4294967296) : format_Parts.f f x = some (sg f x, ex f x, fr f x) := by
  unfold format_Parts.f
  rw [widths]
  rcases tri f with rfl | rfl | ⟨g0, g1⟩
  · simp [EE, MM, shl, shr, IntKind.wrap, IntKind.bits, IntKind.signed, wrap64, sg, ex, fr, TT, BB, RR]
    rw [a1 _ (by omega) (by omega), a5 _ (by omega) (by omega), a10 _ (by omega) (by omega)]
    refine ⟨rfl, by omega, rfl⟩
  · simp [EE, MM, shl, shr, IntKind.wrap, IntKind.bits, IntKind.signed, wrap64, sg, ex, fr, TT, BB, RR]
    rw [a1 _ (by omega) (by omega), a8 _ (by omega) (by omega), a7 _ (by omega) (by omega)]
    refine ⟨rfl, by omega, rfl⟩
  · simp [EE, MM, shl, shr, IntKind.wrap, IntKind.bits, IntKind.signed, wrap64, sg, ex, fr, TT, BB, RR, g0, g1]
    rw [a1 _ (by omega) (by omega), a8 _ (by omega) (by omega), a23 _ (by omega) (by omega)]
    refine ⟨rfl, by omega, rfl⟩
theorem least (f : Int) : format_Least.f f = some (le f) := by
  unfold format_Least.f
  rw [widths]
  rcases tri f with rfl | rfl | ⟨g0, g1⟩ <;> simp [EE, MM, shl, IntKind.wrap, IntKind.bits, IntKind.signed, wrap64, le, RR, *]
theorem top (f : Int) : format_Top.f f = some (RR f - 1) := by
  unfold format_Top.f
  rw [widths]
  rcases tri f with rfl | rfl | ⟨g0, g1⟩ <;> simp [EE, MM, shl, IntKind.wrap, IntKind.bits, IntKind.signed, wrap64, RR, *]
theorem mask (f : Int) : format_Mask.f f = some (2 * TT f - 1) := by
  unfold format_Mask.f
  rw [widths]
  rcases tri f with rfl | rfl | ⟨g0, g1⟩ <;> simp [EE, MM, shl, IntKind.wrap, IntKind.bits, IntKind.signed, wrap64, TT, *]
theorem unpack (f x : Int) (h0 : 0 ≤ x) (h1 : x < 4294967296) : format_Unpack.f f x = some (sg f x, xp f x, sig f x) := by
  unfold format_Unpack.f
  rw [widths, parts f x h0 h1, least, top]
  simp only [Option.bind_some]
  have b1 := ex_bd f x
  have b2 := fr_bd f x
  generalize sg f x = s
  unfold xp sig
  generalize ex f x = e at *
  generalize fr f x = m at *
  rcases tri f with rfl | rfl | ⟨g0, g1⟩
  all_goals
    simp [EE, MM, shl, shr, IntKind.wrap, IntKind.bits, IntKind.signed, wrap64, TT, BB, RR, le, *] at b1 b2 ⊢
    split
    · simp; omega
    · split
      · simp
      · simp
        refine ⟨by omega, ?_⟩
        rw [Int.emod_eq_of_lt (by omega) (by omega)]
        rw [or_comm64]
        first | rw [or_join64 1024 m 10 (by omega) (by omega) (by omega) (by omega) (by omega) (by decide)] | rw [or_join64 128 m 7 (by omega) (by omega) (by omega) (by omega) (by omega) (by decide)] | rw [or_join64 8388608 m 23 (by omega) (by omega) (by omega) (by omega) (by omega) (by decide)]
        omega
theorem class_ (f x : Int) (k : Nat) (h0 : 0 ≤ x) (h1 : x < 4294967296) : format_Class.f (k + 1) f x = some (cl f x) := by
  unfold format_Class.f
  rw [widths, parts f x h0 h1]
  simp only [Option.bind_some]
  unfold cl
  have b1 := ex_bd f x
  have b2 := fr_bd f x
  generalize ex f x = e at *
  generalize fr f x = m at *
  by_cases he : e = 0
  · subst he
    by_cases hm : m = 0 <;> simp [format_Class.j0, hm]
  · simp only [format_Class.j0, top, he, Option.bind_some, if_false]
    rcases tri f with rfl | rfl | ⟨g0, g1⟩ <;> simp [EE, MM, shl, shr, IntKind.wrap, IntKind.bits, IntKind.signed, wrap64, TT, BB, RR, le, *] <;> (repeat' split) <;> simp_all
theorem nan_ (f : Int) : format_Nan.f f = some ((RR f - 1) * BB f + BB f / 2) := by
  unfold format_Nan.f format_Join.f
  rw [widths, top]
  simp only [Option.bind_some]
  rcases tri f with rfl | rfl | ⟨g0, g1⟩
  all_goals
    simp [EE, MM, shl, shr, IntKind.wrap, IntKind.bits, IntKind.signed, wrap64, TT, BB, RR, le, *]
    decide
theorem bits_bd (op : BinOp) (x y : Int) : 0 ≤ Go.bits op .u32 x y ∧ Go.bits op .u32 x y < 4294967296 := by
  unfold Go.bits; rw [IntKind.wrap_u32']; omega
theorem known_ (k : Nat) : anneallaw2_known.f (k + 1) = some true := by
  unfold anneallaw2_known.f
  rw [unpack _ _ (by omega) (by omega), widths, class_ _ _ _ (by omega) (by omega), nan_]
  decide
theorem masked (f v : Int) (h0 : 0 ≤ v) (h1 : v < 4294967296) : Go.bits .and .u32 v (2 * TT f - 1) = v % (2 * TT f) := by
  rcases tri f with rfl | rfl | ⟨g0, g1⟩ <;> simp [TT, *]
  · exact a16 v h0 h1
  · exact a16 v h0 h1
  · rw [a32 v h0 h1]; omega
theorem cl_cases (f x : Int) : (ex f x = 0 ∧ fr f x = 0 ∧ cl f x = 0) ∨ (ex f x = 0 ∧ fr f x ≠ 0 ∧ cl f x = 1) ∨ (0 < ex f x ∧ ex f x < RR f - 1 ∧ cl f x = 2) ∨ (ex f x = RR f - 1 ∧ fr f x = 0 ∧ cl f x = 3) ∨
    (ex f x = RR f - 1 ∧ BB f / 2 ≤ fr f x ∧ cl f x = 4) ∨ (ex f x = RR f - 1 ∧ 0 < fr f x ∧ fr f x < BB f / 2 ∧ cl f x = 5) := by
  have b1 := ex_bd f x
  have b2 := fr_bd f x
  unfold cl
  generalize ex f x = e at *
  generalize fr f x = m at *
  rcases tri f with rfl | rfl | ⟨g0, g1⟩ <;> simp [BB, RR, *] at * <;> (repeat' split) <;> simp_all <;> omega
theorem high_ (f v w : Int) (hf : f = 0 ∨ f = 1) (h0 : 0 ≤ v) (h1 : v < 4294967296) (h2 : 0 ≤ w) (K : Nat) :
    anneallaw2_FormatHigh.j0 (K + 2) v w f = some true := by
  have e : Go.bits .or .u32 (Go.bits .and .u32 v 65535) ((w * 65536) % 4294967296) = (w * 65536) % 4294967296 + v % 65536 := by
    rw [a16 v h0 h1, or_comm32, or_join32 _ _ 16 (by omega) (by omega) (by omega) (by omega) (by omega) (by omega)]
  rw [anneallaw2_FormatHigh.j0, e]
  generalize hy : (w * 65536) % 4294967296 + v % 65536 = y
  have y0 : 0 ≤ y := by omega
  have y1 : y < 4294967296 := by omega
  have s1 : sg f y = sg f v := by
    unfold sg TT; rcases hf with rfl | rfl <;> simp only [decide_eq_decide] <;> simp <;> omega
  have s2 : ex f y = ex f v := by
    unfold ex BB RR; rcases hf with rfl | rfl <;> simp <;> omega
  have s3 : fr f y = fr f v := by
    unfold fr BB; rcases hf with rfl | rfl <;> simp <;> omega
  rw [show format_Unpack.f f v = _ from unpack f v h0 h1, show format_Unpack.f f y = _ from unpack f y y0 y1, show format_Class.f (K + 1) f v = _ from class_ f v K h0 h1,
    show format_Class.f (K + 1) f y = _ from class_ f y K y0 y1, show format_Mask.f f = _ from mask f]
  have s4 : cl f y = cl f v := by unfold cl; rw [s2, s3]
  have s5 : xp f y = xp f v := by unfold xp; rw [s2]
  have s6 : sig f y = sig f v := by unfold sig; rw [s2, s3]
  rw [s1, s4, s5, s6]
  simp only [Option.bind_some, if_true, beq_self_eq_true]
  rcases hf with rfl | rfl <;> rfl
theorem FormatHigh : anneallaw2_FormatHigh.Pure := by
  intro v w b hv hw
  have h1 := wf32 hv
  have h2 := wf32 hw
  refine ⟨2, ?_⟩
  unfold anneallaw2_FormatHigh.f
  rw [show anneallaw2_known.f 2 = some true from known_ 1]
  simp only [Option.bind_some, if_true]
  split
  · exact high_ 1 v w (.inr rfl) h1.1 h1.2 h2.1 0
  · exact high_ 0 v w (.inl rfl) h1.1 h1.2 h2.1 0
end Go.Proofs.Ytcpicekmnkjceaa.Pure
