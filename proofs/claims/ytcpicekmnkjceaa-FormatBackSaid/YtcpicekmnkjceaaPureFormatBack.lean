/- The parts of the bits of any format make these bits again: for all inputs, no condition. -/
import Derived.Test.YtcpicekmnkjceaaSA
import Derived.Test.YtcpicekmnkjceaaPFormatBackx2
namespace Go.Proofs.Ytcpicekmnkjceaa.Pure
open Go.RowKit Go.Proofs.Ytcpicekmnkjceaa.PFormatBack Go.Proofs.YtcpicekmnkjceaaW.PrintWords Go.Proofs.YtcpicekmnkjceaaW.PrintLast Go.Proofs.YtcpicekmnkjceaaW.PrintMore Go.Proofs.Ytcpicekmnkjceaa.SA
set_option linter.unusedSimpArgs false
set_option linter.unusedVariables false
theorem widths (f : Int) : format_Widths.f f = some (EE f, MM f) := by
  unfold format_Widths.f EE MM; split <;> (try split) <;> simp_all
theorem parts (f x : Int) (h0 : 0 ≤ x) (h1 : x < 4294967296) : format_Parts.f f x = some (sg f x, ex f x, fr f x) := by
  unfold format_Parts.f
  rw [widths]
  rcases tri f with rfl | rfl | ⟨g0, g1⟩
  · simp [EE, MM, shl, shr, IntKind.wrap, IntKind.bits, IntKind.signed, wrap64, sg, ex, fr, TT, BB, RR]
    rw [a1 _ (by omega) (by omega), a5 _ (by omega) (by omega), a10 _ (by omega) (by omega)]
    refine ⟨rfl, by omega, rfl⟩
  · simp [EE, MM, shl, shr, IntKind.wrap, IntKind.bits, IntKind.signed, wrap64, sg, ex, fr, TT, BB, RR]
    rw [a1 _ (by omega) (by omega), a8 _ (by omega) (by omega), a7 _ (by omega) (by omega)]
    refine ⟨rfl, by omega, rfl⟩
  · simp [EE, MM, shl, shr, IntKind.wrap, IntKind.bits, IntKind.signed, wrap64, sg, ex, fr, TT, BB, RR, g0, g1]
    rw [a1 _ (by omega) (by omega), a8 _ (by omega) (by omega), a23 _ (by omega) (by omega)]
    refine ⟨rfl, by omega, rfl⟩
theorem least (f : Int) : format_Least.f f = some (le f) := by
  unfold format_Least.f
  rw [widths]
  rcases tri f with rfl | rfl | ⟨g0, g1⟩ <;> simp [EE, MM, shl, IntKind.wrap, IntKind.bits, IntKind.signed, wrap64, le, RR, *]
theorem top (f : Int) : format_Top.f f = some (RR f - 1) := by
  unfold format_Top.f
  rw [widths]
  rcases tri f with rfl | rfl | ⟨g0, g1⟩ <;> simp [EE, MM, shl, IntKind.wrap, IntKind.bits, IntKind.signed, wrap64, RR, *]
theorem mask (f : Int) : format_Mask.f f = some (2 * TT f - 1) := by
  unfold format_Mask.f
  rw [widths]
  rcases tri f with rfl | rfl | ⟨g0, g1⟩ <;> simp [EE, MM, shl, IntKind.wrap, IntKind.bits, IntKind.signed, wrap64, TT, *]
theorem unpack (f x : Int) (h0 : 0 ≤ x) (h1 : x < 4294967296) : format_Unpack.f f x = some (sg f x, xp f x, sig f x) := by
  unfold format_Unpack.f
  rw [widths, parts f x h0 h1, least, top]
  simp only [Option.bind_some]
  have b1 := ex_bd f x
  have b2 := fr_bd f x
  generalize sg f x = s
  unfold xp sig
  generalize ex f x = e at *
  generalize fr f x = m at *
  rcases tri f with rfl | rfl | ⟨g0, g1⟩
  all_goals
    simp [EE, MM, shl, shr, IntKind.wrap, IntKind.bits, IntKind.signed, wrap64, TT, BB, RR, le, *] at b1 b2 ⊢
    split
    · simp; omega
    · split
      · simp
      · simp
        refine ⟨by omega, ?_⟩
        rw [Int.emod_eq_of_lt (by omega) (by omega)]
        rw [or_comm64]
        first | rw [or_join64 1024 m 10 (by omega) (by omega) (by omega) (by omega) (by omega) (by decide)] | rw [or_join64 128 m 7 (by omega) (by omega) (by omega) (by omega) (by omega) (by decide)] | rw [or_join64 8388608 m 23 (by omega) (by omega) (by omega) (by omega) (by omega) (by decide)]
        omega
theorem class_ (f x : Int) (k : Nat) (h0 : 0 ≤ x) (h1 : x < 4294967296) : format_Class.f (k + 1) f x = some (cl f x) := by
  unfold format_Class.f
  rw [widths, parts f x h0 h1]
  simp only [Option.bind_some]
  unfold cl
  have b1 := ex_bd f x
  have b2 := fr_bd f x
  generalize ex f x = e at *
  generalize fr f x = m at *
  by_cases he : e = 0
  · subst he
    by_cases hm : m = 0 <;> simp [format_Class.j0, hm]
  · simp only [format_Class.j0, top, he, Option.bind_some, if_false]
    rcases tri f with rfl | rfl | ⟨g0, g1⟩ <;> simp [EE, MM, shl, shr, IntKind.wrap, IntKind.bits, IntKind.signed, wrap64, TT, BB, RR, le, *] <;> (repeat' split) <;> simp_all
theorem nan_ (f : Int) : format_Nan.f f = some ((RR f - 1) * BB f + BB f / 2) := by
  unfold format_Nan.f format_Join.f
  rw [widths, top]
  simp only [Option.bind_some]
  rcases tri f with rfl | rfl | ⟨g0, g1⟩
  all_goals
    simp [EE, MM, shl, shr, IntKind.wrap, IntKind.bits, IntKind.signed, wrap64, TT, BB, RR, le, *]
    decide
theorem bits_bd (op : BinOp) (x y : Int) : 0 ≤ Go.bits op .u32 x y ∧ Go.bits op .u32 x y < 4294967296 := by
  unfold Go.bits; rw [IntKind.wrap_u32']; omega
theorem zero_ (f : Int) (b : Bool) : format_Zero.f f b = some (if b then TT f else 0) := by
  unfold format_Zero.f format_Join.f
  rw [widths]
  simp only [Option.bind_some]
  rcases tri f with rfl | rfl | ⟨g0, g1⟩ <;> cases b
  all_goals
    simp [EE, MM, shl, shr, IntKind.wrap, IntKind.bits, IntKind.signed, wrap64, TT, BB, RR, le, *]
    decide
theorem finite_ (f x : Int) (h0 : 0 ≤ x) (h1 : x < 4294967296) : format_Finite.f f x = some (decide (ex f x < RR f - 1)) := by
  unfold format_Finite.f
  rw [parts f x h0 h1, top]; rfl
theorem known_ (k : Nat) : anneallaw2_known.f (k + 1) = some true := by
  unfold anneallaw2_known.f
  rw [unpack _ _ (by omega) (by omega), widths, class_ _ _ _ (by omega) (by omega), nan_]
  decide
theorem masked (f v : Int) (h0 : 0 ≤ v) (h1 : v < 4294967296) : Go.bits .and .u32 v (2 * TT f - 1) = v % (2 * TT f) := by
  rcases tri f with rfl | rfl | ⟨g0, g1⟩ <;> simp [TT, *]
  · exact a16 v h0 h1
  · exact a16 v h0 h1
  · rw [a32 v h0 h1]; omega
theorem cl_cases (f x : Int) : (ex f x = 0 ∧ fr f x = 0 ∧ cl f x = 0) ∨ (ex f x = 0 ∧ fr f x ≠ 0 ∧ cl f x = 1) ∨ (0 < ex f x ∧ ex f x < RR f - 1 ∧ cl f x = 2) ∨ (ex f x = RR f - 1 ∧ fr f x = 0 ∧ cl f x = 3) ∨
    (ex f x = RR f - 1 ∧ BB f / 2 ≤ fr f x ∧ cl f x = 4) ∨ (ex f x = RR f - 1 ∧ 0 < fr f x ∧ fr f x < BB f / 2 ∧ cl f x = 5) := by
  have b1 := ex_bd f x
  have b2 := fr_bd f x
  unfold cl
  generalize ex f x = e at *
  generalize fr f x = m at *
  rcases tri f with rfl | rfl | ⟨g0, g1⟩ <;> simp [BB, RR, *] at * <;> (repeat' split) <;> simp_all <;> omega
theorem form_ (a : Int) (h : 0 ≤ a) : anneallaw2_form.f a = some (Int.tmod a 3) := by
  unfold anneallaw2_form.f
  have t1 : 0 ≤ Int.tmod a 3 := Int.tmod_nonneg _ h
  have t2 : Int.tmod a 3 < 3 := Int.tmod_lt_of_pos _ (by omega)
  simp only [Option.bind_some, List.length_cons, List.length_nil]
  rw [if_pos t1, if_pos (by omega)]
  generalize Int.tmod a 3 = t at *
  have : t = 0 ∨ t = 1 ∨ t = 2 := by omega
  rcases this with rfl | rfl | rfl <;> rfl
theorem FormatBack : anneallaw2_FormatBack.Pure := by
  intro a v ha hv
  have h1 := wf32 hv
  have h2 := wf8 ha
  refine ⟨1, ?_⟩
  unfold anneallaw2_FormatBack.f
  rw [show anneallaw2_known.f 1 = some true from known_ 0]
  simp only [Option.bind_some, if_true]
  rw [form_ a h2.1]
  simp only [Option.bind_some]
  generalize Int.tmod a 3 = f
  rw [show format_Mask.f f = some (2 * TT f - 1) from mask f]
  simp only [Option.bind_some]
  rw [masked f v h1.1 h1.2]
  have hx0 : 0 ≤ v % (2 * TT f) := by rcases tri f with rfl | rfl | ⟨g0, g1⟩ <;> simp [TT, *] <;> omega
  have hx1 : v % (2 * TT f) < 2 * TT f := by rcases tri f with rfl | rfl | ⟨g0, g1⟩ <;> simp [TT, *] <;> omega
  generalize v % (2 * TT f) = x at *
  have hx2 : x < 4294967296 := by rcases tri f with rfl | rfl | ⟨g0, g1⟩ <;> simp [TT, *] at hx1 <;> omega
  rw [show format_Finite.f f x = _ from finite_ f x hx0 hx2, show format_Class.f 1 f x = _ from class_ f x 0 hx0 hx2, show format_Unpack.f f x = _ from unpack f x hx0 hx2,
    show format_Widths.f f = _ from widths f, show format_Unpack.f f 0 = _ from unpack f 0 (by omega) (by omega)]
  simp only [Option.bind_some]
  rw [show format_Zero.f f _ = _ from zero_ f (sg f x)]
  simp only [Option.bind_some]
  have c := cl_cases f x
  have b1 := ex_bd f x
  have b2 := fr_bd f x
  by_cases hf : ex f x < RR f - 1
  · rw [if_pos (by simpa using hf)]
    have hsum : x = fr f x + ex f x * BB f + (if sg f x then TT f else 0) := by
      unfold fr ex sg
      rcases tri f with rfl | rfl | ⟨g0, g1⟩ <;> simp [TT, BB, RR, *] at hx1 ⊢ <;> split <;> omega
    unfold sig xp
    have e0 : ex f 0 = 0 := by rcases tri f with rfl | rfl | ⟨g0, g1⟩ <;> simp [ex, BB, RR, *]
    simp only [e0, if_true]
    by_cases he : ex f x = 0
    · simp only [he, if_true]
      rw [he] at hsum
      generalize fr f x = m at *
      generalize sg f x = s at *
      clear c b1 hf e0
      rcases tri f with rfl | rfl | ⟨g0, g1⟩
      all_goals
        simp [MM, shl, shr, IntKind.bits, IntKind.wrap, IntKind.signed, TT, BB, le, RR, *] at b2 hsum hx1 ⊢
        rw [if_neg (by omega)]
        rw [Int.emod_eq_of_lt (by omega) (by omega)]
        simp
        cases s <;> simp at hsum ⊢
        · rw [or_zero32 _ (by omega) (by omega)]
        · rw [or_comm32]
          first | rw [or_join32 32768 m 15 (by omega) (by omega) (by omega) (by omega) (by omega) (by decide)] | rw [or_join32 2147483648 m 31 (by omega) (by omega) (by omega) (by omega) (by omega) (by decide)]
          omega
    · simp only [he, if_false]
      rw [if_pos (by unfold MM; split <;> (try split) <;> omega)]
      have hne : ¬ ex f x = RR f - 1 := by omega
      simp only [hne, if_false]
      have hd : wrap64 (wrap64 (le f - MM f + ex f x - 1 - (le f - MM f)) + 1) = ex f x := by
        generalize ex f x = e at *
        unfold wrap64; rcases tri f with rfl | rfl | ⟨g0, g1⟩ <;> simp [RR, le, MM, *] at b1 ⊢ <;> omega
      rw [hd]
      generalize ex f x = e at *
      generalize fr f x = m at *
      generalize sg f x = s at *
      clear c hd e0 hne
      rcases tri f with rfl | rfl | ⟨g0, g1⟩
      all_goals
        simp [MM, shl, shr, IntKind.bits, IntKind.wrap, IntKind.signed, TT, BB, le, RR, *] at b1 b2 hsum hx1 hf ⊢
        rw [if_pos (by omega)]
        simp
        first
        | rw [a10 _ (by omega) (by omega)]
        | rw [a7 _ (by omega) (by omega)]
        | rw [a23 _ (by omega) (by omega)]
        rw [show (m + _) % 4294967296 % _ = m by omega, Int.emod_eq_of_lt (by omega) (by omega), Int.emod_eq_of_lt (by omega) (by omega), or_comm32 m]
        first
        | rw [or_join32 (e * 1024) m 10 (by omega) (by omega) (by omega) (by omega) (by omega) (by omega)]
        | rw [or_join32 (e * 128) m 7 (by omega) (by omega) (by omega) (by omega) (by omega) (by omega)]
        | rw [or_join32 (e * 8388608) m 23 (by omega) (by omega) (by omega) (by omega) (by omega) (by omega)]
        cases s
        · simp at hx1 ⊢
          rw [or_zero32 _ (by omega) (by omega)]; omega
        · simp at hx1 ⊢
          rw [or_comm32]
          first | rw [or_join32 32768 _ 15 (by omega) (by omega) (by omega) (by omega) (by omega) (by decide)] | rw [or_join32 2147483648 _ 31 (by omega) (by omega) (by omega) (by omega) (by omega) (by decide)]
          omega
  · rw [if_neg (by simpa using hf)]
    have hR : RR f = 32 ∨ RR f = 256 := by unfold RR; split <;> simp
    have : 3 ≤ cl f x := by omega
    simp [this]
end Go.Proofs.Ytcpicekmnkjceaa.Pure
